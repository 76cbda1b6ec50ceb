/-
  NARROWER THAN 'FOR EVERY INPUT', by the rows' own cells (each row's printed sentence says how): RlpWrites: loops · RlpBack: loops.
  DERIVED. THE GIVEN ROWS OF THIS SEAT. 6 by the template 'for every input the law returns true; each argument reads behind the call as it read before'; 0 by the template 'total and deterministic' (their statements: YtkkammncpkgodaaTotals.lean).
  GIVEN WITH THE SEED: the statements are not yours to turn. If you find one false, say at which input.
  Laid BY PROGRAM, IN A SANDBOX (cutbox-rows.mjs): the forced cells as the released guide's own fill.sh prints them over the translation 4824e549edfcf98b… (all of the seat's roots in one cut). By AI agents, Wed Nov 11 2026. No macro, syntax, notation, axiom, sorry.
-/
import Derived.Test.YtkkammncpkgodaaChecked
import GoSem.Claim
import GoSem.ClaimJoined
import GoSem.ClaimMapViews
import Derived.JoinedTies
import Derived.KernelRfl
namespace Go.Proofs.Ytkkammncpkgodaa
/- THE CELL 'sum', in the pinned program and in every row, IS THE sha256 OF THE DUMP (.gsa) THAT YtkkammncpkgodaaProg.lean LOADS. Nothing in Lean hashes anything: it is a label: what it is worth is what the hold of that sum in a sandbox is worth. -/
noncomputable def Try.pinned : Pinned := { name := "ytkkammncpkgodaa", sum := "4824e549edfcf98b23eec869bce3902f6b97bec94cb62cc57b4efb451c7fb607", checked := Try.checked }
namespace Rows
def none {H : Type} : Left H := { results := [], args := [] }

/-- 'loesslaw02.RlpReads': WHATEVER THE INPUT: true; the input reads as it did. -/
def rlpReadsSpec : ChangeSpec := { name := "rlpReads", fn := fun _ => fun
  | [d] => { results := [.lit (.bool true)], args := [d] }
  | _ => none }
def rlpReadsRow : OpenClaim := { program := "ytkkammncpkgodaa", sum := "4824e549edfcf98b23eec869bce3902f6b97bec94cb62cc57b4efb451c7fb607", func := "loess/loesslaw02.RlpReads", spec := "rlpReads", inPlace := ["internal/abi.NoEscape", "internal/bytealg.MakeNoZero"], unfollowed := true, recurses := true, apart := false }
def RlpReadsSaid : Prop := rlpReadsRow.holds Try.pinned (OpenSpec.ofChange rlpReadsSpec)

/-- ITS FALSE NEIGHBOUR: 'it returns false'. Refute it at one input. -/
def rlpReadsWrong : ChangeSpec := { name := "rlpReads", fn := fun _ => fun
  | [d] => { results := [.lit (.bool false)], args := [d] }
  | _ => none }
def RlpReadsWrongFalsely : Prop := rlpReadsRow.holds Try.pinned (OpenSpec.ofChange rlpReadsWrong)

/-- 'loesslaw02.RlpNumbers': WHATEVER THE INPUT: true; the input reads as it did. -/
def rlpNumbersSpec : ChangeSpec := { name := "rlpNumbers", fn := fun _ => fun
  | [d1, d2, d3] => { results := [.lit (.bool true)], args := [d1, d2, d3] }
  | _ => none }
def rlpNumbersRow : OpenClaim := { program := "ytkkammncpkgodaa", sum := "4824e549edfcf98b23eec869bce3902f6b97bec94cb62cc57b4efb451c7fb607", func := "loess/loesslaw02.RlpNumbers", spec := "rlpNumbers", inPlace := ["internal/abi.NoEscape", "internal/bytealg.MakeNoZero"], unfollowed := true, recurses := true, apart := false }
def RlpNumbersSaid : Prop := rlpNumbersRow.holds Try.pinned (OpenSpec.ofChange rlpNumbersSpec)

/-- ITS FALSE NEIGHBOUR: 'it returns false'. Refute it at one input. -/
def rlpNumbersWrong : ChangeSpec := { name := "rlpNumbers", fn := fun _ => fun
  | [d1, d2, d3] => { results := [.lit (.bool false)], args := [d1, d2, d3] }
  | _ => none }
def RlpNumbersWrongFalsely : Prop := rlpNumbersRow.holds Try.pinned (OpenSpec.ofChange rlpNumbersWrong)

/-- 'loesslaw02.RlpRows': WHATEVER THE INPUT: true; the input reads as it did. -/
def rlpRowsSpec : ChangeSpec := { name := "rlpRows", fn := fun _ => fun
  | [d1, d2] => { results := [.lit (.bool true)], args := [d1, d2] }
  | _ => none }
def rlpRowsRow : OpenClaim := { program := "ytkkammncpkgodaa", sum := "4824e549edfcf98b23eec869bce3902f6b97bec94cb62cc57b4efb451c7fb607", func := "loess/loesslaw02.RlpRows", spec := "rlpRows", inPlace := ["internal/abi.NoEscape", "internal/bytealg.MakeNoZero"], unfollowed := true, recurses := true, apart := false }
def RlpRowsSaid : Prop := rlpRowsRow.holds Try.pinned (OpenSpec.ofChange rlpRowsSpec)

/-- ITS FALSE NEIGHBOUR: 'it returns false'. Refute it at one input. -/
def rlpRowsWrong : ChangeSpec := { name := "rlpRows", fn := fun _ => fun
  | [d1, d2] => { results := [.lit (.bool false)], args := [d1, d2] }
  | _ => none }
def RlpRowsWrongFalsely : Prop := rlpRowsRow.holds Try.pinned (OpenSpec.ofChange rlpRowsWrong)

/-- 'loesslaw02.RlpCuts': WHATEVER THE INPUT: true; the input reads as it did. -/
def rlpCutsSpec : ChangeSpec := { name := "rlpCuts", fn := fun _ => fun
  | [d1, d2, d3] => { results := [.lit (.bool true)], args := [d1, d2, d3] }
  | _ => none }
def rlpCutsRow : OpenClaim := { program := "ytkkammncpkgodaa", sum := "4824e549edfcf98b23eec869bce3902f6b97bec94cb62cc57b4efb451c7fb607", func := "loess/loesslaw02.RlpCuts", spec := "rlpCuts", inPlace := ["internal/abi.NoEscape", "internal/bytealg.MakeNoZero"], unfollowed := true, recurses := true, apart := false }
def RlpCutsSaid : Prop := rlpCutsRow.holds Try.pinned (OpenSpec.ofChange rlpCutsSpec)

/-- ITS FALSE NEIGHBOUR: 'it returns false'. Refute it at one input. -/
def rlpCutsWrong : ChangeSpec := { name := "rlpCuts", fn := fun _ => fun
  | [d1, d2, d3] => { results := [.lit (.bool false)], args := [d1, d2, d3] }
  | _ => none }
def RlpCutsWrongFalsely : Prop := rlpCutsRow.holds Try.pinned (OpenSpec.ofChange rlpCutsWrong)

/-- 'loesslaw02.RlpWrites': WHATEVER THE INPUT: true; the input reads as it did. -/
def rlpWritesSpec : ChangeSpec := { name := "rlpWrites", fn := fun _ => fun
  | [d1, d2, d3] => { results := [.lit (.bool true)], args := [d1, d2, d3] }
  | _ => none }
def rlpWritesRow : OpenClaim := { program := "ytkkammncpkgodaa", sum := "4824e549edfcf98b23eec869bce3902f6b97bec94cb62cc57b4efb451c7fb607", func := "loess/loesslaw02.RlpWrites", spec := "rlpWrites", inPlace := ["internal/abi.NoEscape", "internal/bytealg.MakeNoZero"], unfollowed := true, recurses := true, loops := true, apart := false }
def RlpWritesSaid : Prop := rlpWritesRow.holds Try.pinned (OpenSpec.ofChange rlpWritesSpec)

/-- ITS FALSE NEIGHBOUR: 'it returns false'. Refute it at one input. -/
def rlpWritesWrong : ChangeSpec := { name := "rlpWrites", fn := fun _ => fun
  | [d1, d2, d3] => { results := [.lit (.bool false)], args := [d1, d2, d3] }
  | _ => none }
def RlpWritesWrongFalsely : Prop := rlpWritesRow.holds Try.pinned (OpenSpec.ofChange rlpWritesWrong)

/-- 'loesslaw02.RlpBack': WHATEVER THE INPUT: true; the input reads as it did. -/
def rlpBackSpec : ChangeSpec := { name := "rlpBack", fn := fun _ => fun
  | [d1, d2] => { results := [.lit (.bool true)], args := [d1, d2] }
  | _ => none }
def rlpBackRow : OpenClaim := { program := "ytkkammncpkgodaa", sum := "4824e549edfcf98b23eec869bce3902f6b97bec94cb62cc57b4efb451c7fb607", func := "loess/loesslaw02.RlpBack", spec := "rlpBack", inPlace := ["internal/abi.NoEscape", "internal/bytealg.MakeNoZero"], unfollowed := true, recurses := true, loops := true, apart := false }
def RlpBackSaid : Prop := rlpBackRow.holds Try.pinned (OpenSpec.ofChange rlpBackSpec)

/-- ITS FALSE NEIGHBOUR: 'it returns false'. Refute it at one input. -/
def rlpBackWrong : ChangeSpec := { name := "rlpBack", fn := fun _ => fun
  | [d1, d2] => { results := [.lit (.bool false)], args := [d1, d2] }
  | _ => none }
def RlpBackWrongFalsely : Prop := rlpBackRow.holds Try.pinned (OpenSpec.ofChange rlpBackWrong)

/- THE SECOND FORM. 'bulk': how many values and letters a reading holds, each counted each time it is reached (what is shared counts as often as it is met; a slice's spare places count too). A statement '..UptoSaid' is the law's where the arguments, and the package variables that the reading takes, are together of bulk at most 1048576: NARROWER than '..Said'. Prove '..Said' where nothing that the law and all that it calls make is longer than what came in: it says more and counts as full. Else prove '..UptoSaid'. A law counts once. -/
mutual
def uptoBulk {H : Type} : DataW H → Nat
  | .lit (.string bytes) => bytes.length + 1
  | .lit _ => 1
  | .nil => 1
  | .ptr d => uptoBulk d + 1
  | .slice elems spare => uptoBulkAll elems + uptoBulkAll spare + 1
  | .agg parts => uptoBulkAll parts + 1
  | .iface _ d => uptoBulk d + 1
  | .map entries => uptoBulkEntries entries + 1
  | .held _ => 1
def uptoBulkAll {H : Type} : List (DataW H) → Nat
  | [] => 0
  | d :: r => uptoBulk d + uptoBulkAll r
def uptoBulkEntries {H : Type} : List (Lit × DataW H) → Nat
  | [] => 0
  | x :: r => uptoBulkEntry x + uptoBulkEntries r
def uptoBulkEntry {H : Type} : Lit × DataW H → Nat
  | (.string bytes, d) => bytes.length + uptoBulk d + 1
  | (_, d) => uptoBulk d + 1
 end
def uptoSmall : (H : Type) → List (DataW H) → Bool := fun _ ds => decide (uptoBulkAll ds ≤ 1048576)
def OpenSpec.upto (s : _root_.Go.ChangeSpec) : _root_.Go.OpenSpec := { _root_.Go.OpenSpec.ofChange s with cond := some uptoSmall }

/-- 'loesslaw02.RlpReads', WHERE WHAT IT READS IS OF BULK AT MOST 1048576: true; the input reads as it did. -/
def rlpReadsUptoRow : OpenClaim := { program := "ytkkammncpkgodaa", sum := "4824e549edfcf98b23eec869bce3902f6b97bec94cb62cc57b4efb451c7fb607", func := "loess/loesslaw02.RlpReads", spec := "rlpReads", inPlace := ["internal/abi.NoEscape", "internal/bytealg.MakeNoZero"], unfollowed := true, recurses := true, apart := false, narrowed := true }
def RlpReadsUptoSaid : Prop := rlpReadsUptoRow.holds Try.pinned (OpenSpec.upto rlpReadsSpec)

/-- 'loesslaw02.RlpNumbers', WHERE WHAT IT READS IS OF BULK AT MOST 1048576: true; the input reads as it did. -/
def rlpNumbersUptoRow : OpenClaim := { program := "ytkkammncpkgodaa", sum := "4824e549edfcf98b23eec869bce3902f6b97bec94cb62cc57b4efb451c7fb607", func := "loess/loesslaw02.RlpNumbers", spec := "rlpNumbers", inPlace := ["internal/abi.NoEscape", "internal/bytealg.MakeNoZero"], unfollowed := true, recurses := true, apart := false, narrowed := true }
def RlpNumbersUptoSaid : Prop := rlpNumbersUptoRow.holds Try.pinned (OpenSpec.upto rlpNumbersSpec)

/-- 'loesslaw02.RlpRows', WHERE WHAT IT READS IS OF BULK AT MOST 1048576: true; the input reads as it did. -/
def rlpRowsUptoRow : OpenClaim := { program := "ytkkammncpkgodaa", sum := "4824e549edfcf98b23eec869bce3902f6b97bec94cb62cc57b4efb451c7fb607", func := "loess/loesslaw02.RlpRows", spec := "rlpRows", inPlace := ["internal/abi.NoEscape", "internal/bytealg.MakeNoZero"], unfollowed := true, recurses := true, apart := false, narrowed := true }
def RlpRowsUptoSaid : Prop := rlpRowsUptoRow.holds Try.pinned (OpenSpec.upto rlpRowsSpec)

/-- 'loesslaw02.RlpCuts', WHERE WHAT IT READS IS OF BULK AT MOST 1048576: true; the input reads as it did. -/
def rlpCutsUptoRow : OpenClaim := { program := "ytkkammncpkgodaa", sum := "4824e549edfcf98b23eec869bce3902f6b97bec94cb62cc57b4efb451c7fb607", func := "loess/loesslaw02.RlpCuts", spec := "rlpCuts", inPlace := ["internal/abi.NoEscape", "internal/bytealg.MakeNoZero"], unfollowed := true, recurses := true, apart := false, narrowed := true }
def RlpCutsUptoSaid : Prop := rlpCutsUptoRow.holds Try.pinned (OpenSpec.upto rlpCutsSpec)

/-- 'loesslaw02.RlpWrites', WHERE WHAT IT READS IS OF BULK AT MOST 1048576: true; the input reads as it did. -/
def rlpWritesUptoRow : OpenClaim := { program := "ytkkammncpkgodaa", sum := "4824e549edfcf98b23eec869bce3902f6b97bec94cb62cc57b4efb451c7fb607", func := "loess/loesslaw02.RlpWrites", spec := "rlpWrites", inPlace := ["internal/abi.NoEscape", "internal/bytealg.MakeNoZero"], unfollowed := true, recurses := true, loops := true, apart := false, narrowed := true }
def RlpWritesUptoSaid : Prop := rlpWritesUptoRow.holds Try.pinned (OpenSpec.upto rlpWritesSpec)

/-- 'loesslaw02.RlpBack', WHERE WHAT IT READS IS OF BULK AT MOST 1048576: true; the input reads as it did. -/
def rlpBackUptoRow : OpenClaim := { program := "ytkkammncpkgodaa", sum := "4824e549edfcf98b23eec869bce3902f6b97bec94cb62cc57b4efb451c7fb607", func := "loess/loesslaw02.RlpBack", spec := "rlpBack", inPlace := ["internal/abi.NoEscape", "internal/bytealg.MakeNoZero"], unfollowed := true, recurses := true, loops := true, apart := false, narrowed := true }
def RlpBackUptoSaid : Prop := rlpBackUptoRow.holds Try.pinned (OpenSpec.upto rlpBackSpec)

end Rows
end Go.Proofs.Ytkkammncpkgodaa
