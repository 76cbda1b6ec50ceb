/-
  NARROWER THAN 'FOR EVERY INPUT', by the rows' own cells (each row's printed sentence says how): NibbleOrder: laid · NibbleUnpacks: laid · NibbleShares: laid · NibbleBehind: laid · NibbleRows: laid · NibbleBack: laid.
  DERIVED. THE GIVEN ROWS OF THIS SEAT. 6 by the template 'for every input the law returns true; each argument reads behind the call as it read before'; 0 by the template 'total and deterministic' (their statements: YtlajpfdmbagedaaDoorTotals.lean).
  GIVEN WITH THE SEED: the statements are not yours to turn. If you find one false, say at which input.
  Laid BY PROGRAM, IN A SANDBOX (cutbox-rows.mjs): the forced cells as the released guide's own fill.sh prints them over the translation e4ea8400f7936853… (all of the seat's roots in one cut). By AI agents, Wed Nov 11 2026. No macro, syntax, notation, axiom, sorry.
-/
import Derived.Test.YtlajpfdmbagedaaDoorChecked
import GoSem.PinnedTables
import GoSem.Claim
import GoSem.ClaimJoined
import GoSem.ClaimMapViews
import Derived.JoinedTies
import Derived.KernelRfl
namespace Go.Proofs.YtlajpfdmbagedaaDoor
/- THE CELL 'sum', in the pinned program and in every row, IS THE sha256 OF THE DUMP (.gsa) THAT YtlajpfdmbagedaaDoorProg.lean LOADS. Nothing in Lean hashes anything: it is a label: what it is worth is what the hold of that sum in a sandbox is worth. -/
noncomputable def Tryd.pinned : Pinned := { name := "ytlajpfdmbagedaadoor", sum := "e4ea8400f79368534e2300ab7b47697943e6431f089ec95e964430aa96a2e833", checked := Tryd.checked }
namespace Rows
def none {H : Type} : Left H := { results := [], args := [] }

/- WHAT THE LISTED PACKAGE-LEVEL VARIABLES READ AS WHEN THE CALL BEGINS. Each datum BY PROGRAM (the guide's laid-datum.mjs) off the statement by which the dump's own 'gosem.cut.vars' lays the variable. In a bare row this is a premise. The card (YtlajpfdmbagedaaDoorCards.lean) ties it to the program's text. -/
def laid_unicode_utf8_acceptRanges {H : Type} : DataW H := .agg [.agg [.lit (.int .u8 128), .lit (.int .u8 191)], .agg [.lit (.int .u8 160), .lit (.int .u8 191)], .agg [.lit (.int .u8 128), .lit (.int .u8 159)], .agg [.lit (.int .u8 144), .lit (.int .u8 191)], .agg [.lit (.int .u8 128), .lit (.int .u8 143)], .agg [.lit (.int .u8 0), .lit (.int .u8 0)], .agg [.lit (.int .u8 0), .lit (.int .u8 0)], .agg [.lit (.int .u8 0), .lit (.int .u8 0)], .agg [.lit (.int .u8 0), .lit (.int .u8 0)], .agg [.lit (.int .u8 0), .lit (.int .u8 0)], .agg [.lit (.int .u8 0), .lit (.int .u8 0)], .agg [.lit (.int .u8 0), .lit (.int .u8 0)], .agg [.lit (.int .u8 0), .lit (.int .u8 0)], .agg [.lit (.int .u8 0), .lit (.int .u8 0)], .agg [.lit (.int .u8 0), .lit (.int .u8 0)], .agg [.lit (.int .u8 0), .lit (.int .u8 0)]]
/-- One of Go's own tables, pinned by name: the form's constant. -/
def laid_unicode_utf8_first : DataW Unit := Go.Pinned.utf8First

/-- 'loesslaw03.NibbleOrder': WHATEVER THE INPUT: true; the input reads as it did. -/
def nibbleOrderSpec : ChangeSpec := { name := "nibbleOrder", fn := fun _ => fun
  | [d1, d2, d3] => { results := [.lit (.bool true)], args := [d1, d2, d3] }
  | _ => none }
def nibbleOrderRow : OpenClaim := { program := "ytlajpfdmbagedaadoor", sum := "e4ea8400f79368534e2300ab7b47697943e6431f089ec95e964430aa96a2e833", func := "loess/loesslaw03.NibbleOrder", spec := "nibbleOrder", inPlace := ["internal/bytealg.IndexByteString", "internal/bytealg.IndexString"], unfollowed := true, recurses := true, named := ["unicode/utf8.first", "unicode/utf8.acceptRanges", "internal/bytealg.MaxLen"], apart := false, laid := [("unicode/utf8.acceptRanges", laid_unicode_utf8_acceptRanges), ("unicode/utf8.first", laid_unicode_utf8_first)] }
def NibbleOrderSaid : Prop := nibbleOrderRow.holds Tryd.pinned (OpenSpec.ofChange nibbleOrderSpec)

/-- ITS FALSE NEIGHBOUR: 'it returns false'. Refute it at one input. -/
def nibbleOrderWrong : ChangeSpec := { name := "nibbleOrder", fn := fun _ => fun
  | [d1, d2, d3] => { results := [.lit (.bool false)], args := [d1, d2, d3] }
  | _ => none }
def NibbleOrderWrongFalsely : Prop := nibbleOrderRow.holds Tryd.pinned (OpenSpec.ofChange nibbleOrderWrong)

/-- 'loesslaw03.NibbleUnpacks': WHATEVER THE INPUT: true; the input reads as it did. -/
def nibbleUnpacksSpec : ChangeSpec := { name := "nibbleUnpacks", fn := fun _ => fun
  | [d1, d2, d3] => { results := [.lit (.bool true)], args := [d1, d2, d3] }
  | _ => none }
def nibbleUnpacksRow : OpenClaim := { program := "ytlajpfdmbagedaadoor", sum := "e4ea8400f79368534e2300ab7b47697943e6431f089ec95e964430aa96a2e833", func := "loess/loesslaw03.NibbleUnpacks", spec := "nibbleUnpacks", inPlace := ["internal/bytealg.IndexByteString", "internal/bytealg.IndexString"], unfollowed := true, recurses := true, named := ["unicode/utf8.first", "unicode/utf8.acceptRanges", "internal/bytealg.MaxLen"], apart := false, laid := [("unicode/utf8.acceptRanges", laid_unicode_utf8_acceptRanges), ("unicode/utf8.first", laid_unicode_utf8_first)] }
def NibbleUnpacksSaid : Prop := nibbleUnpacksRow.holds Tryd.pinned (OpenSpec.ofChange nibbleUnpacksSpec)

/-- ITS FALSE NEIGHBOUR: 'it returns false'. Refute it at one input. -/
def nibbleUnpacksWrong : ChangeSpec := { name := "nibbleUnpacks", fn := fun _ => fun
  | [d1, d2, d3] => { results := [.lit (.bool false)], args := [d1, d2, d3] }
  | _ => none }
def NibbleUnpacksWrongFalsely : Prop := nibbleUnpacksRow.holds Tryd.pinned (OpenSpec.ofChange nibbleUnpacksWrong)

/-- 'loesslaw03.NibbleShares': WHATEVER THE INPUT: true; the input reads as it did. -/
def nibbleSharesSpec : ChangeSpec := { name := "nibbleShares", fn := fun _ => fun
  | [d1, d2, d3] => { results := [.lit (.bool true)], args := [d1, d2, d3] }
  | _ => none }
def nibbleSharesRow : OpenClaim := { program := "ytlajpfdmbagedaadoor", sum := "e4ea8400f79368534e2300ab7b47697943e6431f089ec95e964430aa96a2e833", func := "loess/loesslaw03.NibbleShares", spec := "nibbleShares", inPlace := ["internal/bytealg.IndexByteString", "internal/bytealg.IndexString"], unfollowed := true, recurses := true, named := ["unicode/utf8.first", "unicode/utf8.acceptRanges", "internal/bytealg.MaxLen"], apart := false, laid := [("unicode/utf8.acceptRanges", laid_unicode_utf8_acceptRanges), ("unicode/utf8.first", laid_unicode_utf8_first)] }
def NibbleSharesSaid : Prop := nibbleSharesRow.holds Tryd.pinned (OpenSpec.ofChange nibbleSharesSpec)

/-- ITS FALSE NEIGHBOUR: 'it returns false'. Refute it at one input. -/
def nibbleSharesWrong : ChangeSpec := { name := "nibbleShares", fn := fun _ => fun
  | [d1, d2, d3] => { results := [.lit (.bool false)], args := [d1, d2, d3] }
  | _ => none }
def NibbleSharesWrongFalsely : Prop := nibbleSharesRow.holds Tryd.pinned (OpenSpec.ofChange nibbleSharesWrong)

/-- 'loesslaw03.NibbleBehind': WHATEVER THE INPUT: true; the input reads as it did. -/
def nibbleBehindSpec : ChangeSpec := { name := "nibbleBehind", fn := fun _ => fun
  | [d1, d2, d3] => { results := [.lit (.bool true)], args := [d1, d2, d3] }
  | _ => none }
def nibbleBehindRow : OpenClaim := { program := "ytlajpfdmbagedaadoor", sum := "e4ea8400f79368534e2300ab7b47697943e6431f089ec95e964430aa96a2e833", func := "loess/loesslaw03.NibbleBehind", spec := "nibbleBehind", inPlace := ["internal/bytealg.IndexByteString", "internal/bytealg.IndexString"], unfollowed := true, recurses := true, named := ["unicode/utf8.first", "unicode/utf8.acceptRanges", "internal/bytealg.MaxLen"], apart := false, laid := [("unicode/utf8.acceptRanges", laid_unicode_utf8_acceptRanges), ("unicode/utf8.first", laid_unicode_utf8_first)] }
def NibbleBehindSaid : Prop := nibbleBehindRow.holds Tryd.pinned (OpenSpec.ofChange nibbleBehindSpec)

/-- ITS FALSE NEIGHBOUR: 'it returns false'. Refute it at one input. -/
def nibbleBehindWrong : ChangeSpec := { name := "nibbleBehind", fn := fun _ => fun
  | [d1, d2, d3] => { results := [.lit (.bool false)], args := [d1, d2, d3] }
  | _ => none }
def NibbleBehindWrongFalsely : Prop := nibbleBehindRow.holds Tryd.pinned (OpenSpec.ofChange nibbleBehindWrong)

/-- 'loesslaw03.NibbleRows': WHATEVER THE INPUT: true; the input reads as it did. -/
def nibbleRowsSpec : ChangeSpec := { name := "nibbleRows", fn := fun _ => fun
  | [d1, d2, d3] => { results := [.lit (.bool true)], args := [d1, d2, d3] }
  | _ => none }
def nibbleRowsRow : OpenClaim := { program := "ytlajpfdmbagedaadoor", sum := "e4ea8400f79368534e2300ab7b47697943e6431f089ec95e964430aa96a2e833", func := "loess/loesslaw03.NibbleRows", spec := "nibbleRows", inPlace := ["internal/bytealg.IndexByteString", "internal/bytealg.IndexString"], unfollowed := true, recurses := true, named := ["unicode/utf8.first", "unicode/utf8.acceptRanges", "internal/bytealg.MaxLen"], apart := false, laid := [("unicode/utf8.acceptRanges", laid_unicode_utf8_acceptRanges), ("unicode/utf8.first", laid_unicode_utf8_first)] }
def NibbleRowsSaid : Prop := nibbleRowsRow.holds Tryd.pinned (OpenSpec.ofChange nibbleRowsSpec)

/-- ITS FALSE NEIGHBOUR: 'it returns false'. Refute it at one input. -/
def nibbleRowsWrong : ChangeSpec := { name := "nibbleRows", fn := fun _ => fun
  | [d1, d2, d3] => { results := [.lit (.bool false)], args := [d1, d2, d3] }
  | _ => none }
def NibbleRowsWrongFalsely : Prop := nibbleRowsRow.holds Tryd.pinned (OpenSpec.ofChange nibbleRowsWrong)

/-- 'loesslaw03.NibbleBack': WHATEVER THE INPUT: true; the input reads as it did. -/
def nibbleBackSpec : ChangeSpec := { name := "nibbleBack", fn := fun _ => fun
  | [d1, d2, d3] => { results := [.lit (.bool true)], args := [d1, d2, d3] }
  | _ => none }
def nibbleBackRow : OpenClaim := { program := "ytlajpfdmbagedaadoor", sum := "e4ea8400f79368534e2300ab7b47697943e6431f089ec95e964430aa96a2e833", func := "loess/loesslaw03.NibbleBack", spec := "nibbleBack", inPlace := ["internal/bytealg.IndexByteString", "internal/bytealg.IndexString"], unfollowed := true, recurses := true, named := ["unicode/utf8.first", "unicode/utf8.acceptRanges", "internal/bytealg.MaxLen"], apart := false, laid := [("unicode/utf8.acceptRanges", laid_unicode_utf8_acceptRanges), ("unicode/utf8.first", laid_unicode_utf8_first)] }
def NibbleBackSaid : Prop := nibbleBackRow.holds Tryd.pinned (OpenSpec.ofChange nibbleBackSpec)

/-- ITS FALSE NEIGHBOUR: 'it returns false'. Refute it at one input. -/
def nibbleBackWrong : ChangeSpec := { name := "nibbleBack", fn := fun _ => fun
  | [d1, d2, d3] => { results := [.lit (.bool false)], args := [d1, d2, d3] }
  | _ => none }
def NibbleBackWrongFalsely : Prop := nibbleBackRow.holds Tryd.pinned (OpenSpec.ofChange nibbleBackWrong)

/- THE SECOND FORM. 'bulk': how many values and letters a reading holds, each counted each time it is reached (what is shared counts as often as it is met; a slice's spare places count too). A statement '..UptoSaid' is the law's where the arguments, and the package variables that the reading takes, are together of bulk at most 1048576: NARROWER than '..Said'. Prove '..Said' where nothing that the law and all that it calls make is longer than what came in: it says more and counts as full. Else prove '..UptoSaid'. A law counts once. -/
mutual
def uptoBulk {H : Type} : DataW H → Nat
  | .lit (.string bytes) => bytes.length + 1
  | .lit _ => 1
  | .nil => 1
  | .ptr d => uptoBulk d + 1
  | .slice elems spare => uptoBulkAll elems + uptoBulkAll spare + 1
  | .agg parts => uptoBulkAll parts + 1
  | .iface _ d => uptoBulk d + 1
  | .map entries => uptoBulkEntries entries + 1
  | .held _ => 1
def uptoBulkAll {H : Type} : List (DataW H) → Nat
  | [] => 0
  | d :: r => uptoBulk d + uptoBulkAll r
def uptoBulkEntries {H : Type} : List (Lit × DataW H) → Nat
  | [] => 0
  | x :: r => uptoBulkEntry x + uptoBulkEntries r
def uptoBulkEntry {H : Type} : Lit × DataW H → Nat
  | (.string bytes, d) => bytes.length + uptoBulk d + 1
  | (_, d) => uptoBulk d + 1
 end
def uptoSmall : (H : Type) → List (DataW H) → Bool := fun _ ds => decide (uptoBulkAll ds ≤ 1048576)
def OpenSpec.upto (s : _root_.Go.ChangeSpec) : _root_.Go.OpenSpec := { _root_.Go.OpenSpec.ofChange s with cond := some uptoSmall }

/-- 'loesslaw03.NibbleOrder', WHERE WHAT IT READS IS OF BULK AT MOST 1048576: true; the input reads as it did. -/
def nibbleOrderUptoRow : OpenClaim := { program := "ytlajpfdmbagedaadoor", sum := "e4ea8400f79368534e2300ab7b47697943e6431f089ec95e964430aa96a2e833", func := "loess/loesslaw03.NibbleOrder", spec := "nibbleOrder", inPlace := ["internal/bytealg.IndexByteString", "internal/bytealg.IndexString"], unfollowed := true, recurses := true, named := ["unicode/utf8.first", "unicode/utf8.acceptRanges", "internal/bytealg.MaxLen"], apart := false, laid := [("unicode/utf8.acceptRanges", laid_unicode_utf8_acceptRanges), ("unicode/utf8.first", laid_unicode_utf8_first)], narrowed := true }
def NibbleOrderUptoSaid : Prop := nibbleOrderUptoRow.holds Tryd.pinned (OpenSpec.upto nibbleOrderSpec)

/-- 'loesslaw03.NibbleUnpacks', WHERE WHAT IT READS IS OF BULK AT MOST 1048576: true; the input reads as it did. -/
def nibbleUnpacksUptoRow : OpenClaim := { program := "ytlajpfdmbagedaadoor", sum := "e4ea8400f79368534e2300ab7b47697943e6431f089ec95e964430aa96a2e833", func := "loess/loesslaw03.NibbleUnpacks", spec := "nibbleUnpacks", inPlace := ["internal/bytealg.IndexByteString", "internal/bytealg.IndexString"], unfollowed := true, recurses := true, named := ["unicode/utf8.first", "unicode/utf8.acceptRanges", "internal/bytealg.MaxLen"], apart := false, laid := [("unicode/utf8.acceptRanges", laid_unicode_utf8_acceptRanges), ("unicode/utf8.first", laid_unicode_utf8_first)], narrowed := true }
def NibbleUnpacksUptoSaid : Prop := nibbleUnpacksUptoRow.holds Tryd.pinned (OpenSpec.upto nibbleUnpacksSpec)

/-- 'loesslaw03.NibbleShares', WHERE WHAT IT READS IS OF BULK AT MOST 1048576: true; the input reads as it did. -/
def nibbleSharesUptoRow : OpenClaim := { program := "ytlajpfdmbagedaadoor", sum := "e4ea8400f79368534e2300ab7b47697943e6431f089ec95e964430aa96a2e833", func := "loess/loesslaw03.NibbleShares", spec := "nibbleShares", inPlace := ["internal/bytealg.IndexByteString", "internal/bytealg.IndexString"], unfollowed := true, recurses := true, named := ["unicode/utf8.first", "unicode/utf8.acceptRanges", "internal/bytealg.MaxLen"], apart := false, laid := [("unicode/utf8.acceptRanges", laid_unicode_utf8_acceptRanges), ("unicode/utf8.first", laid_unicode_utf8_first)], narrowed := true }
def NibbleSharesUptoSaid : Prop := nibbleSharesUptoRow.holds Tryd.pinned (OpenSpec.upto nibbleSharesSpec)

/-- 'loesslaw03.NibbleBehind', WHERE WHAT IT READS IS OF BULK AT MOST 1048576: true; the input reads as it did. -/
def nibbleBehindUptoRow : OpenClaim := { program := "ytlajpfdmbagedaadoor", sum := "e4ea8400f79368534e2300ab7b47697943e6431f089ec95e964430aa96a2e833", func := "loess/loesslaw03.NibbleBehind", spec := "nibbleBehind", inPlace := ["internal/bytealg.IndexByteString", "internal/bytealg.IndexString"], unfollowed := true, recurses := true, named := ["unicode/utf8.first", "unicode/utf8.acceptRanges", "internal/bytealg.MaxLen"], apart := false, laid := [("unicode/utf8.acceptRanges", laid_unicode_utf8_acceptRanges), ("unicode/utf8.first", laid_unicode_utf8_first)], narrowed := true }
def NibbleBehindUptoSaid : Prop := nibbleBehindUptoRow.holds Tryd.pinned (OpenSpec.upto nibbleBehindSpec)

/-- 'loesslaw03.NibbleRows', WHERE WHAT IT READS IS OF BULK AT MOST 1048576: true; the input reads as it did. -/
def nibbleRowsUptoRow : OpenClaim := { program := "ytlajpfdmbagedaadoor", sum := "e4ea8400f79368534e2300ab7b47697943e6431f089ec95e964430aa96a2e833", func := "loess/loesslaw03.NibbleRows", spec := "nibbleRows", inPlace := ["internal/bytealg.IndexByteString", "internal/bytealg.IndexString"], unfollowed := true, recurses := true, named := ["unicode/utf8.first", "unicode/utf8.acceptRanges", "internal/bytealg.MaxLen"], apart := false, laid := [("unicode/utf8.acceptRanges", laid_unicode_utf8_acceptRanges), ("unicode/utf8.first", laid_unicode_utf8_first)], narrowed := true }
def NibbleRowsUptoSaid : Prop := nibbleRowsUptoRow.holds Tryd.pinned (OpenSpec.upto nibbleRowsSpec)

/-- 'loesslaw03.NibbleBack', WHERE WHAT IT READS IS OF BULK AT MOST 1048576: true; the input reads as it did. -/
def nibbleBackUptoRow : OpenClaim := { program := "ytlajpfdmbagedaadoor", sum := "e4ea8400f79368534e2300ab7b47697943e6431f089ec95e964430aa96a2e833", func := "loess/loesslaw03.NibbleBack", spec := "nibbleBack", inPlace := ["internal/bytealg.IndexByteString", "internal/bytealg.IndexString"], unfollowed := true, recurses := true, named := ["unicode/utf8.first", "unicode/utf8.acceptRanges", "internal/bytealg.MaxLen"], apart := false, laid := [("unicode/utf8.acceptRanges", laid_unicode_utf8_acceptRanges), ("unicode/utf8.first", laid_unicode_utf8_first)], narrowed := true }
def NibbleBackUptoSaid : Prop := nibbleBackUptoRow.holds Tryd.pinned (OpenSpec.upto nibbleBackSpec)

end Rows
end Go.Proofs.YtlajpfdmbagedaaDoor
