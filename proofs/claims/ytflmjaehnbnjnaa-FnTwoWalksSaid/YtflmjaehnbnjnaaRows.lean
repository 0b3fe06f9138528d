/-
  No cell of these rows narrows 'for every input' (looked for: loops, veiled, ifaces, maps, wideKeys, modest, calm, conditions, laid).
  DERIVED. THE GIVEN ROWS OF THIS SEAT. 4 by the template 'for every input the law returns true; each argument reads behind the call as it read before'; 0 by the template 'total and deterministic' (their statements: YtflmjaehnbnjnaaTotals.lean).
  GIVEN WITH THE SEED: the statements are not yours to turn. If you find one false, say at which input.
  Laid BY PROGRAM, IN A SANDBOX (cutbox-rows.mjs): the forced cells as the released guide's own fill.sh prints them over the translation 9412da8e62fa7382… (all of the seat's roots in one cut). By AI agents, Wed Nov 11 2026. No macro, syntax, notation, axiom, sorry.
-/
import Derived.Test.YtflmjaehnbnjnaaChecked
import GoSem.Claim
import GoSem.ClaimJoined
import GoSem.ClaimMapViews
import Derived.JoinedTies
import Derived.KernelRfl
namespace Go.Proofs.Ytflmjaehnbnjnaa
/- THE CELL 'sum', in the pinned program and in every row, IS THE sha256 OF THE DUMP (.gsa) THAT YtflmjaehnbnjnaaProg.lean LOADS. Nothing in Lean hashes anything: it is a label: what it is worth is what the hold of that sum in a sandbox is worth. -/
noncomputable def Try.pinned : Pinned := { name := "ytflmjaehnbnjnaa", sum := "9412da8e62fa73827c32d4cc5935af6f7eda01d0ac7522e8639218882a6eda47", checked := Try.checked }
namespace Rows
def none {H : Type} : Left H := { results := [], args := [] }

/-- 'laws.FnWalked': WHATEVER THE INPUT: true; the input reads as it did. -/
def fnWalkedSpec : ChangeSpec := { name := "fnWalked", fn := fun _ => fun
  | [d] => { results := [.lit (.bool true)], args := [d] }
  | _ => none }
def fnWalkedRow : OpenClaim := { program := "ytflmjaehnbnjnaa", sum := "9412da8e62fa73827c32d4cc5935af6f7eda01d0ac7522e8639218882a6eda47", func := "loop.example/g00038/laws.FnWalked", spec := "fnWalked", apart := false }
def FnWalkedSaid : Prop := fnWalkedRow.holds Try.pinned (OpenSpec.ofChange fnWalkedSpec)

/-- ITS FALSE NEIGHBOUR: 'it returns false'. Refute it at one input. -/
def fnWalkedWrong : ChangeSpec := { name := "fnWalked", fn := fun _ => fun
  | [d] => { results := [.lit (.bool false)], args := [d] }
  | _ => none }
def FnWalkedWrongFalsely : Prop := fnWalkedRow.holds Try.pinned (OpenSpec.ofChange fnWalkedWrong)

/-- 'laws.FnTwoWalks': WHATEVER THE INPUT: true; the input reads as it did. -/
def fnTwoWalksSpec : ChangeSpec := { name := "fnTwoWalks", fn := fun _ => fun
  | [d] => { results := [.lit (.bool true)], args := [d] }
  | _ => none }
def fnTwoWalksRow : OpenClaim := { program := "ytflmjaehnbnjnaa", sum := "9412da8e62fa73827c32d4cc5935af6f7eda01d0ac7522e8639218882a6eda47", func := "loop.example/g00038/laws.FnTwoWalks", spec := "fnTwoWalks", unfollowed := true, recurses := true, apart := false }
def FnTwoWalksSaid : Prop := fnTwoWalksRow.holds Try.pinned (OpenSpec.ofChange fnTwoWalksSpec)

/-- ITS FALSE NEIGHBOUR: 'it returns false'. Refute it at one input. -/
def fnTwoWalksWrong : ChangeSpec := { name := "fnTwoWalks", fn := fun _ => fun
  | [d] => { results := [.lit (.bool false)], args := [d] }
  | _ => none }
def FnTwoWalksWrongFalsely : Prop := fnTwoWalksRow.holds Try.pinned (OpenSpec.ofChange fnTwoWalksWrong)

/-- 'laws.FnMapped': WHATEVER THE INPUT: true; the input reads as it did. -/
def fnMappedSpec : ChangeSpec := { name := "fnMapped", fn := fun _ => fun
  | [d] => { results := [.lit (.bool true)], args := [d] }
  | _ => none }
def fnMappedRow : OpenClaim := { program := "ytflmjaehnbnjnaa", sum := "9412da8e62fa73827c32d4cc5935af6f7eda01d0ac7522e8639218882a6eda47", func := "loop.example/g00038/laws.FnMapped", spec := "fnMapped", unfollowed := true, recurses := true, apart := false }
def FnMappedSaid : Prop := fnMappedRow.holds Try.pinned (OpenSpec.ofChange fnMappedSpec)

/-- ITS FALSE NEIGHBOUR: 'it returns false'. Refute it at one input. -/
def fnMappedWrong : ChangeSpec := { name := "fnMapped", fn := fun _ => fun
  | [d] => { results := [.lit (.bool false)], args := [d] }
  | _ => none }
def FnMappedWrongFalsely : Prop := fnMappedRow.holds Try.pinned (OpenSpec.ofChange fnMappedWrong)

/-- 'laws.FnDma': WHATEVER THE INPUT: true; the input reads as it did. -/
def fnDmaSpec : ChangeSpec := { name := "fnDma", fn := fun _ => fun
  | [d] => { results := [.lit (.bool true)], args := [d] }
  | _ => none }
def fnDmaRow : OpenClaim := { program := "ytflmjaehnbnjnaa", sum := "9412da8e62fa73827c32d4cc5935af6f7eda01d0ac7522e8639218882a6eda47", func := "loop.example/g00038/laws.FnDma", spec := "fnDma", apart := false }
def FnDmaSaid : Prop := fnDmaRow.holds Try.pinned (OpenSpec.ofChange fnDmaSpec)

/-- ITS FALSE NEIGHBOUR: 'it returns false'. Refute it at one input. -/
def fnDmaWrong : ChangeSpec := { name := "fnDma", fn := fun _ => fun
  | [d] => { results := [.lit (.bool false)], args := [d] }
  | _ => none }
def FnDmaWrongFalsely : Prop := fnDmaRow.holds Try.pinned (OpenSpec.ofChange fnDmaWrong)

/- THE SECOND FORM. 'bulk': how many values and letters a reading holds, each counted each time it is reached (what is shared counts as often as it is met; a slice's spare places count too). A statement '..UptoSaid' is the law's where the arguments, and the package variables that the reading takes, are together of bulk at most 1048576: NARROWER than '..Said'. Prove '..Said' where nothing that the law and all that it calls make is longer than what came in: it says more and counts as full. Else prove '..UptoSaid'. A law counts once. -/
mutual
def uptoBulk {H : Type} : DataW H → Nat
  | .lit (.string bytes) => bytes.length + 1
  | .lit _ => 1
  | .nil => 1
  | .ptr d => uptoBulk d + 1
  | .slice elems spare => uptoBulkAll elems + uptoBulkAll spare + 1
  | .agg parts => uptoBulkAll parts + 1
  | .iface _ d => uptoBulk d + 1
  | .map entries => uptoBulkEntries entries + 1
  | .held _ => 1
def uptoBulkAll {H : Type} : List (DataW H) → Nat
  | [] => 0
  | d :: r => uptoBulk d + uptoBulkAll r
def uptoBulkEntries {H : Type} : List (Lit × DataW H) → Nat
  | [] => 0
  | x :: r => uptoBulkEntry x + uptoBulkEntries r
def uptoBulkEntry {H : Type} : Lit × DataW H → Nat
  | (.string bytes, d) => bytes.length + uptoBulk d + 1
  | (_, d) => uptoBulk d + 1
 end
def uptoSmall : (H : Type) → List (DataW H) → Bool := fun _ ds => decide (uptoBulkAll ds ≤ 1048576)
def OpenSpec.upto (s : _root_.Go.ChangeSpec) : _root_.Go.OpenSpec := { _root_.Go.OpenSpec.ofChange s with cond := some uptoSmall }

/-- 'laws.FnWalked', WHERE WHAT IT READS IS OF BULK AT MOST 1048576: true; the input reads as it did. -/
def fnWalkedUptoRow : OpenClaim := { program := "ytflmjaehnbnjnaa", sum := "9412da8e62fa73827c32d4cc5935af6f7eda01d0ac7522e8639218882a6eda47", func := "loop.example/g00038/laws.FnWalked", spec := "fnWalked", apart := false, narrowed := true }
def FnWalkedUptoSaid : Prop := fnWalkedUptoRow.holds Try.pinned (OpenSpec.upto fnWalkedSpec)

/-- 'laws.FnTwoWalks', WHERE WHAT IT READS IS OF BULK AT MOST 1048576: true; the input reads as it did. -/
def fnTwoWalksUptoRow : OpenClaim := { program := "ytflmjaehnbnjnaa", sum := "9412da8e62fa73827c32d4cc5935af6f7eda01d0ac7522e8639218882a6eda47", func := "loop.example/g00038/laws.FnTwoWalks", spec := "fnTwoWalks", unfollowed := true, recurses := true, apart := false, narrowed := true }
def FnTwoWalksUptoSaid : Prop := fnTwoWalksUptoRow.holds Try.pinned (OpenSpec.upto fnTwoWalksSpec)

/-- 'laws.FnMapped', WHERE WHAT IT READS IS OF BULK AT MOST 1048576: true; the input reads as it did. -/
def fnMappedUptoRow : OpenClaim := { program := "ytflmjaehnbnjnaa", sum := "9412da8e62fa73827c32d4cc5935af6f7eda01d0ac7522e8639218882a6eda47", func := "loop.example/g00038/laws.FnMapped", spec := "fnMapped", unfollowed := true, recurses := true, apart := false, narrowed := true }
def FnMappedUptoSaid : Prop := fnMappedUptoRow.holds Try.pinned (OpenSpec.upto fnMappedSpec)

/-- 'laws.FnDma', WHERE WHAT IT READS IS OF BULK AT MOST 1048576: true; the input reads as it did. -/
def fnDmaUptoRow : OpenClaim := { program := "ytflmjaehnbnjnaa", sum := "9412da8e62fa73827c32d4cc5935af6f7eda01d0ac7522e8639218882a6eda47", func := "loop.example/g00038/laws.FnDma", spec := "fnDma", apart := false, narrowed := true }
def FnDmaUptoSaid : Prop := fnDmaUptoRow.holds Try.pinned (OpenSpec.upto fnDmaSpec)

end Rows
end Go.Proofs.Ytflmjaehnbnjnaa
