/-
  No cell of these rows narrows 'for every input' (looked for: loops, veiled, ifaces, maps, wideKeys, modest, calm, conditions, laid).
  DERIVED. THE GIVEN ROWS OF THIS SEAT. 6 by the template 'for every input the law returns true; each argument reads behind the call as it read before'; 0 by the template 'total and deterministic' (their statements: YtenbofpmbdibjaaTotals.lean).
  GIVEN WITH THE SEED: the statements are not yours to turn. If you find one false, say at which input.
  Laid BY PROGRAM, IN A SANDBOX (cutbox-rows.mjs): the forced cells as the released guide's own fill.sh prints them over the translation f24cd5f73bfbd7fa… (all of the seat's roots in one cut). By AI agents, Wed Nov 11 2026. No macro, syntax, notation, axiom, sorry.
-/
import Derived.Test.YtenbofpmbdibjaaChecked
import GoSem.Claim
import GoSem.ClaimJoined
import GoSem.ClaimMapViews
import Derived.JoinedTies
import Derived.KernelRfl
namespace Go.Proofs.Ytenbofpmbdibjaa
/- THE CELL 'sum', in the pinned program and in every row, IS THE sha256 OF THE DUMP (.gsa) THAT YtenbofpmbdibjaaProg.lean LOADS. Nothing in Lean hashes anything: it is a label: what it is worth is what the hold of that sum in a sandbox is worth. -/
noncomputable def Try.pinned : Pinned := { name := "ytenbofpmbdibjaa", sum := "f24cd5f73bfbd7fa0e9234e4b0530a05448450a41983cf245805aeb0aeae325f", checked := Try.checked }
namespace Rows
def none {H : Type} : Left H := { results := [], args := [] }

/-- 'loesslaw16.BlockBytes': WHATEVER THE INPUT: true; the input reads as it did. -/
def blockBytesSpec : ChangeSpec := { name := "blockBytes", fn := fun _ => fun
  | [d1, d2] => { results := [.lit (.bool true)], args := [d1, d2] }
  | _ => none }
def blockBytesRow : OpenClaim := { program := "ytenbofpmbdibjaa", sum := "f24cd5f73bfbd7fa0e9234e4b0530a05448450a41983cf245805aeb0aeae325f", func := "loess/loesslaw16.BlockBytes", spec := "blockBytes", inPlace := ["internal/abi.NoEscape", "internal/bytealg.MakeNoZero"], unfollowed := true, recurses := true, apart := false }
def BlockBytesSaid : Prop := blockBytesRow.holds Try.pinned (OpenSpec.ofChange blockBytesSpec)

/-- ITS FALSE NEIGHBOUR: 'it returns false'. Refute it at one input. -/
def blockBytesWrong : ChangeSpec := { name := "blockBytes", fn := fun _ => fun
  | [d1, d2] => { results := [.lit (.bool false)], args := [d1, d2] }
  | _ => none }
def BlockBytesWrongFalsely : Prop := blockBytesRow.holds Try.pinned (OpenSpec.ofChange blockBytesWrong)

/-- 'loesslaw16.BlockBack': WHATEVER THE INPUT: true; the input reads as it did. -/
def blockBackSpec : ChangeSpec := { name := "blockBack", fn := fun _ => fun
  | [d1, d2] => { results := [.lit (.bool true)], args := [d1, d2] }
  | _ => none }
def blockBackRow : OpenClaim := { program := "ytenbofpmbdibjaa", sum := "f24cd5f73bfbd7fa0e9234e4b0530a05448450a41983cf245805aeb0aeae325f", func := "loess/loesslaw16.BlockBack", spec := "blockBack", inPlace := ["internal/abi.NoEscape", "internal/bytealg.MakeNoZero"], unfollowed := true, recurses := true, apart := false }
def BlockBackSaid : Prop := blockBackRow.holds Try.pinned (OpenSpec.ofChange blockBackSpec)

/-- ITS FALSE NEIGHBOUR: 'it returns false'. Refute it at one input. -/
def blockBackWrong : ChangeSpec := { name := "blockBack", fn := fun _ => fun
  | [d1, d2] => { results := [.lit (.bool false)], args := [d1, d2] }
  | _ => none }
def BlockBackWrongFalsely : Prop := blockBackRow.holds Try.pinned (OpenSpec.ofChange blockBackWrong)

/-- 'loesslaw16.BlockAccounts': WHATEVER THE INPUT: true; the input reads as it did. -/
def blockAccountsSpec : ChangeSpec := { name := "blockAccounts", fn := fun _ => fun
  | [d1, d2, d3] => { results := [.lit (.bool true)], args := [d1, d2, d3] }
  | _ => none }
def blockAccountsRow : OpenClaim := { program := "ytenbofpmbdibjaa", sum := "f24cd5f73bfbd7fa0e9234e4b0530a05448450a41983cf245805aeb0aeae325f", func := "loess/loesslaw16.BlockAccounts", spec := "blockAccounts", inPlace := ["internal/abi.NoEscape", "internal/bytealg.MakeNoZero"], unfollowed := true, recurses := true, apart := false }
def BlockAccountsSaid : Prop := blockAccountsRow.holds Try.pinned (OpenSpec.ofChange blockAccountsSpec)

/-- ITS FALSE NEIGHBOUR: 'it returns false'. Refute it at one input. -/
def blockAccountsWrong : ChangeSpec := { name := "blockAccounts", fn := fun _ => fun
  | [d1, d2, d3] => { results := [.lit (.bool false)], args := [d1, d2, d3] }
  | _ => none }
def BlockAccountsWrongFalsely : Prop := blockAccountsRow.holds Try.pinned (OpenSpec.ofChange blockAccountsWrong)

/-- 'loesslaw16.BlockOne': WHATEVER THE INPUT: true; the input reads as it did. -/
def blockOneSpec : ChangeSpec := { name := "blockOne", fn := fun _ => fun
  | [d1, d2] => { results := [.lit (.bool true)], args := [d1, d2] }
  | _ => none }
def blockOneRow : OpenClaim := { program := "ytenbofpmbdibjaa", sum := "f24cd5f73bfbd7fa0e9234e4b0530a05448450a41983cf245805aeb0aeae325f", func := "loess/loesslaw16.BlockOne", spec := "blockOne", inPlace := ["internal/abi.NoEscape", "internal/bytealg.MakeNoZero"], unfollowed := true, recurses := true, apart := false }
def BlockOneSaid : Prop := blockOneRow.holds Try.pinned (OpenSpec.ofChange blockOneSpec)

/-- ITS FALSE NEIGHBOUR: 'it returns false'. Refute it at one input. -/
def blockOneWrong : ChangeSpec := { name := "blockOne", fn := fun _ => fun
  | [d1, d2] => { results := [.lit (.bool false)], args := [d1, d2] }
  | _ => none }
def BlockOneWrongFalsely : Prop := blockOneRow.holds Try.pinned (OpenSpec.ofChange blockOneWrong)

/-- 'loesslaw16.BlockGone': WHATEVER THE INPUT: true; the input reads as it did. -/
def blockGoneSpec : ChangeSpec := { name := "blockGone", fn := fun _ => fun
  | [d1, d2, d3] => { results := [.lit (.bool true)], args := [d1, d2, d3] }
  | _ => none }
def blockGoneRow : OpenClaim := { program := "ytenbofpmbdibjaa", sum := "f24cd5f73bfbd7fa0e9234e4b0530a05448450a41983cf245805aeb0aeae325f", func := "loess/loesslaw16.BlockGone", spec := "blockGone", inPlace := ["internal/abi.NoEscape", "internal/bytealg.MakeNoZero"], unfollowed := true, recurses := true, apart := false }
def BlockGoneSaid : Prop := blockGoneRow.holds Try.pinned (OpenSpec.ofChange blockGoneSpec)

/-- ITS FALSE NEIGHBOUR: 'it returns false'. Refute it at one input. -/
def blockGoneWrong : ChangeSpec := { name := "blockGone", fn := fun _ => fun
  | [d1, d2, d3] => { results := [.lit (.bool false)], args := [d1, d2, d3] }
  | _ => none }
def BlockGoneWrongFalsely : Prop := blockGoneRow.holds Try.pinned (OpenSpec.ofChange blockGoneWrong)

/-- 'loesslaw16.BlockReads': WHATEVER THE INPUT: true; the input reads as it did. -/
def blockReadsSpec : ChangeSpec := { name := "blockReads", fn := fun _ => fun
  | [d1, d2, d3] => { results := [.lit (.bool true)], args := [d1, d2, d3] }
  | _ => none }
def blockReadsRow : OpenClaim := { program := "ytenbofpmbdibjaa", sum := "f24cd5f73bfbd7fa0e9234e4b0530a05448450a41983cf245805aeb0aeae325f", func := "loess/loesslaw16.BlockReads", spec := "blockReads", inPlace := ["internal/abi.NoEscape", "internal/bytealg.MakeNoZero"], unfollowed := true, recurses := true, apart := false }
def BlockReadsSaid : Prop := blockReadsRow.holds Try.pinned (OpenSpec.ofChange blockReadsSpec)

/-- ITS FALSE NEIGHBOUR: 'it returns false'. Refute it at one input. -/
def blockReadsWrong : ChangeSpec := { name := "blockReads", fn := fun _ => fun
  | [d1, d2, d3] => { results := [.lit (.bool false)], args := [d1, d2, d3] }
  | _ => none }
def BlockReadsWrongFalsely : Prop := blockReadsRow.holds Try.pinned (OpenSpec.ofChange blockReadsWrong)

/- THE SECOND FORM. 'bulk': how many values and letters a reading holds, each counted each time it is reached (what is shared counts as often as it is met; a slice's spare places count too). A statement '..UptoSaid' is the law's where the arguments, and the package variables that the reading takes, are together of bulk at most 1048576: NARROWER than '..Said'. Prove '..Said' where nothing that the law and all that it calls make is longer than what came in: it says more and counts as full. Else prove '..UptoSaid'. A law counts once. -/
mutual
def uptoBulk {H : Type} : DataW H → Nat
  | .lit (.string bytes) => bytes.length + 1
  | .lit _ => 1
  | .nil => 1
  | .ptr d => uptoBulk d + 1
  | .slice elems spare => uptoBulkAll elems + uptoBulkAll spare + 1
  | .agg parts => uptoBulkAll parts + 1
  | .iface _ d => uptoBulk d + 1
  | .map entries => uptoBulkEntries entries + 1
  | .held _ => 1
def uptoBulkAll {H : Type} : List (DataW H) → Nat
  | [] => 0
  | d :: r => uptoBulk d + uptoBulkAll r
def uptoBulkEntries {H : Type} : List (Lit × DataW H) → Nat
  | [] => 0
  | x :: r => uptoBulkEntry x + uptoBulkEntries r
def uptoBulkEntry {H : Type} : Lit × DataW H → Nat
  | (.string bytes, d) => bytes.length + uptoBulk d + 1
  | (_, d) => uptoBulk d + 1
 end
def uptoSmall : (H : Type) → List (DataW H) → Bool := fun _ ds => decide (uptoBulkAll ds ≤ 1048576)
def OpenSpec.upto (s : _root_.Go.ChangeSpec) : _root_.Go.OpenSpec := { _root_.Go.OpenSpec.ofChange s with cond := some uptoSmall }

/-- 'loesslaw16.BlockBytes', WHERE WHAT IT READS IS OF BULK AT MOST 1048576: true; the input reads as it did. -/
def blockBytesUptoRow : OpenClaim := { program := "ytenbofpmbdibjaa", sum := "f24cd5f73bfbd7fa0e9234e4b0530a05448450a41983cf245805aeb0aeae325f", func := "loess/loesslaw16.BlockBytes", spec := "blockBytes", inPlace := ["internal/abi.NoEscape", "internal/bytealg.MakeNoZero"], unfollowed := true, recurses := true, apart := false, narrowed := true }
def BlockBytesUptoSaid : Prop := blockBytesUptoRow.holds Try.pinned (OpenSpec.upto blockBytesSpec)

/-- 'loesslaw16.BlockBack', WHERE WHAT IT READS IS OF BULK AT MOST 1048576: true; the input reads as it did. -/
def blockBackUptoRow : OpenClaim := { program := "ytenbofpmbdibjaa", sum := "f24cd5f73bfbd7fa0e9234e4b0530a05448450a41983cf245805aeb0aeae325f", func := "loess/loesslaw16.BlockBack", spec := "blockBack", inPlace := ["internal/abi.NoEscape", "internal/bytealg.MakeNoZero"], unfollowed := true, recurses := true, apart := false, narrowed := true }
def BlockBackUptoSaid : Prop := blockBackUptoRow.holds Try.pinned (OpenSpec.upto blockBackSpec)

/-- 'loesslaw16.BlockAccounts', WHERE WHAT IT READS IS OF BULK AT MOST 1048576: true; the input reads as it did. -/
def blockAccountsUptoRow : OpenClaim := { program := "ytenbofpmbdibjaa", sum := "f24cd5f73bfbd7fa0e9234e4b0530a05448450a41983cf245805aeb0aeae325f", func := "loess/loesslaw16.BlockAccounts", spec := "blockAccounts", inPlace := ["internal/abi.NoEscape", "internal/bytealg.MakeNoZero"], unfollowed := true, recurses := true, apart := false, narrowed := true }
def BlockAccountsUptoSaid : Prop := blockAccountsUptoRow.holds Try.pinned (OpenSpec.upto blockAccountsSpec)

/-- 'loesslaw16.BlockOne', WHERE WHAT IT READS IS OF BULK AT MOST 1048576: true; the input reads as it did. -/
def blockOneUptoRow : OpenClaim := { program := "ytenbofpmbdibjaa", sum := "f24cd5f73bfbd7fa0e9234e4b0530a05448450a41983cf245805aeb0aeae325f", func := "loess/loesslaw16.BlockOne", spec := "blockOne", inPlace := ["internal/abi.NoEscape", "internal/bytealg.MakeNoZero"], unfollowed := true, recurses := true, apart := false, narrowed := true }
def BlockOneUptoSaid : Prop := blockOneUptoRow.holds Try.pinned (OpenSpec.upto blockOneSpec)

/-- 'loesslaw16.BlockGone', WHERE WHAT IT READS IS OF BULK AT MOST 1048576: true; the input reads as it did. -/
def blockGoneUptoRow : OpenClaim := { program := "ytenbofpmbdibjaa", sum := "f24cd5f73bfbd7fa0e9234e4b0530a05448450a41983cf245805aeb0aeae325f", func := "loess/loesslaw16.BlockGone", spec := "blockGone", inPlace := ["internal/abi.NoEscape", "internal/bytealg.MakeNoZero"], unfollowed := true, recurses := true, apart := false, narrowed := true }
def BlockGoneUptoSaid : Prop := blockGoneUptoRow.holds Try.pinned (OpenSpec.upto blockGoneSpec)

/-- 'loesslaw16.BlockReads', WHERE WHAT IT READS IS OF BULK AT MOST 1048576: true; the input reads as it did. -/
def blockReadsUptoRow : OpenClaim := { program := "ytenbofpmbdibjaa", sum := "f24cd5f73bfbd7fa0e9234e4b0530a05448450a41983cf245805aeb0aeae325f", func := "loess/loesslaw16.BlockReads", spec := "blockReads", inPlace := ["internal/abi.NoEscape", "internal/bytealg.MakeNoZero"], unfollowed := true, recurses := true, apart := false, narrowed := true }
def BlockReadsUptoSaid : Prop := blockReadsUptoRow.holds Try.pinned (OpenSpec.upto blockReadsSpec)

end Rows
end Go.Proofs.Ytenbofpmbdibjaa
