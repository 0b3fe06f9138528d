/-
  No cell of these rows narrows 'for every input' (looked for: loops, veiled, ifaces, maps, wideKeys, modest, calm, conditions, laid).
  DERIVED. THE GIVEN ROWS OF THIS SEAT. 12 by the template 'for every input the law returns true; each argument reads behind the call as it read before'; 0 by the template 'total and deterministic' (their statements: YtnopbegjbbbdhaaTotals.lean).
  GIVEN WITH THE SEED: the statements are not yours to turn. If you find one false, say at which input.
  Laid BY PROGRAM, IN A SANDBOX (cutbox-rows.mjs): the forced cells as the released guide's own fill.sh prints them over the translation ef1f8c60473a4637… (all of the seat's roots in one cut). By AI agents, Wed Nov 11 2026. No macro, syntax, notation, axiom, sorry.
-/
import Derived.Test.YtnopbegjbbbdhaaChecked
import GoSem.Claim
import GoSem.ClaimJoined
import GoSem.ClaimMapViews
import Derived.JoinedTies
import Derived.KernelRfl
namespace Go.Proofs.Ytnopbegjbbbdhaa
/- THE CELL 'sum', in the pinned program and in every row, IS THE sha256 OF THE DUMP (.gsa) THAT YtnopbegjbbbdhaaProg.lean LOADS. Nothing in Lean hashes anything: it is a label: what it is worth is what the hold of that sum in a sandbox is worth. -/
noncomputable def Try.pinned : Pinned := { name := "ytnopbegjbbbdhaa", sum := "ef1f8c60473a4637885c2d2b2c2073ee094cbc5f4f7586867e4a1695394355cf", checked := Try.checked }
namespace Rows
def none {H : Type} : Left H := { results := [], args := [] }

/-- 'laws.FnExactWalk': WHATEVER THE INPUT: true; the input reads as it did. -/
def fnExactWalkSpec : ChangeSpec := { name := "fnExactWalk", fn := fun _ => fun
  | [d1, d2, d3, d4, d5] => { results := [.lit (.bool true)], args := [d1, d2, d3, d4, d5] }
  | _ => none }
def fnExactWalkRow : OpenClaim := { program := "ytnopbegjbbbdhaa", sum := "ef1f8c60473a4637885c2d2b2c2073ee094cbc5f4f7586867e4a1695394355cf", func := "loop.example/g00038/laws.FnExactWalk", spec := "fnExactWalk", apart := false }
def FnExactWalkSaid : Prop := fnExactWalkRow.holds Try.pinned (OpenSpec.ofChange fnExactWalkSpec)

/-- ITS FALSE NEIGHBOUR: 'it returns false'. Refute it at one input. -/
def fnExactWalkWrong : ChangeSpec := { name := "fnExactWalk", fn := fun _ => fun
  | [d1, d2, d3, d4, d5] => { results := [.lit (.bool false)], args := [d1, d2, d3, d4, d5] }
  | _ => none }
def FnExactWalkWrongFalsely : Prop := fnExactWalkRow.holds Try.pinned (OpenSpec.ofChange fnExactWalkWrong)

/-- 'laws.FnExactDmaRead': WHATEVER THE INPUT: true; the input reads as it did. -/
def fnExactDmaReadSpec : ChangeSpec := { name := "fnExactDmaRead", fn := fun _ => fun
  | [d1, d2, d3, d4] => { results := [.lit (.bool true)], args := [d1, d2, d3, d4] }
  | _ => none }
def fnExactDmaReadRow : OpenClaim := { program := "ytnopbegjbbbdhaa", sum := "ef1f8c60473a4637885c2d2b2c2073ee094cbc5f4f7586867e4a1695394355cf", func := "loop.example/g00038/laws.FnExactDmaRead", spec := "fnExactDmaRead", apart := false }
def FnExactDmaReadSaid : Prop := fnExactDmaReadRow.holds Try.pinned (OpenSpec.ofChange fnExactDmaReadSpec)

/-- ITS FALSE NEIGHBOUR: 'it returns false'. Refute it at one input. -/
def fnExactDmaReadWrong : ChangeSpec := { name := "fnExactDmaRead", fn := fun _ => fun
  | [d1, d2, d3, d4] => { results := [.lit (.bool false)], args := [d1, d2, d3, d4] }
  | _ => none }
def FnExactDmaReadWrongFalsely : Prop := fnExactDmaReadRow.holds Try.pinned (OpenSpec.ofChange fnExactDmaReadWrong)

/-- 'laws.FnExactDmaWrite': WHATEVER THE INPUT: true; the input reads as it did. -/
def fnExactDmaWriteSpec : ChangeSpec := { name := "fnExactDmaWrite", fn := fun _ => fun
  | [d1, d2, d3, d4] => { results := [.lit (.bool true)], args := [d1, d2, d3, d4] }
  | _ => none }
def fnExactDmaWriteRow : OpenClaim := { program := "ytnopbegjbbbdhaa", sum := "ef1f8c60473a4637885c2d2b2c2073ee094cbc5f4f7586867e4a1695394355cf", func := "loop.example/g00038/laws.FnExactDmaWrite", spec := "fnExactDmaWrite", apart := false }
def FnExactDmaWriteSaid : Prop := fnExactDmaWriteRow.holds Try.pinned (OpenSpec.ofChange fnExactDmaWriteSpec)

/-- ITS FALSE NEIGHBOUR: 'it returns false'. Refute it at one input. -/
def fnExactDmaWriteWrong : ChangeSpec := { name := "fnExactDmaWrite", fn := fun _ => fun
  | [d1, d2, d3, d4] => { results := [.lit (.bool false)], args := [d1, d2, d3, d4] }
  | _ => none }
def FnExactDmaWriteWrongFalsely : Prop := fnExactDmaWriteRow.holds Try.pinned (OpenSpec.ofChange fnExactDmaWriteWrong)

/-- 'laws.FnExactBoardOf': WHATEVER THE INPUT: true; the input reads as it did. -/
def fnExactBoardOfSpec : ChangeSpec := { name := "fnExactBoardOf", fn := fun _ => fun
  | [d] => { results := [.lit (.bool true)], args := [d] }
  | _ => none }
def fnExactBoardOfRow : OpenClaim := { program := "ytnopbegjbbbdhaa", sum := "ef1f8c60473a4637885c2d2b2c2073ee094cbc5f4f7586867e4a1695394355cf", func := "loop.example/g00038/laws.FnExactBoardOf", spec := "fnExactBoardOf", unfollowed := true, recurses := true, apart := false }
def FnExactBoardOfSaid : Prop := fnExactBoardOfRow.holds Try.pinned (OpenSpec.ofChange fnExactBoardOfSpec)

/-- ITS FALSE NEIGHBOUR: 'it returns false'. Refute it at one input. -/
def fnExactBoardOfWrong : ChangeSpec := { name := "fnExactBoardOf", fn := fun _ => fun
  | [d] => { results := [.lit (.bool false)], args := [d] }
  | _ => none }
def FnExactBoardOfWrongFalsely : Prop := fnExactBoardOfRow.holds Try.pinned (OpenSpec.ofChange fnExactBoardOfWrong)

/-- 'laws.FnExactReadTables': WHATEVER THE INPUT: true; the input reads as it did. -/
def fnExactReadTablesSpec : ChangeSpec := { name := "fnExactReadTables", fn := fun _ => fun
  | [d1, d2] => { results := [.lit (.bool true)], args := [d1, d2] }
  | _ => none }
def fnExactReadTablesRow : OpenClaim := { program := "ytnopbegjbbbdhaa", sum := "ef1f8c60473a4637885c2d2b2c2073ee094cbc5f4f7586867e4a1695394355cf", func := "loop.example/g00038/laws.FnExactReadTables", spec := "fnExactReadTables", apart := false }
def FnExactReadTablesSaid : Prop := fnExactReadTablesRow.holds Try.pinned (OpenSpec.ofChange fnExactReadTablesSpec)

/-- ITS FALSE NEIGHBOUR: 'it returns false'. Refute it at one input. -/
def fnExactReadTablesWrong : ChangeSpec := { name := "fnExactReadTables", fn := fun _ => fun
  | [d1, d2] => { results := [.lit (.bool false)], args := [d1, d2] }
  | _ => none }
def FnExactReadTablesWrongFalsely : Prop := fnExactReadTablesRow.holds Try.pinned (OpenSpec.ofChange fnExactReadTablesWrong)

/-- 'laws.FnFirmware': WHATEVER THE INPUT: true; the input reads as it did. -/
def fnFirmwareSpec : ChangeSpec := { name := "fnFirmware", fn := fun _ => fun
  | [d] => { results := [.lit (.bool true)], args := [d] }
  | _ => none }
def fnFirmwareRow : OpenClaim := { program := "ytnopbegjbbbdhaa", sum := "ef1f8c60473a4637885c2d2b2c2073ee094cbc5f4f7586867e4a1695394355cf", func := "loop.example/g00038/laws.FnFirmware", spec := "fnFirmware", unfollowed := true, recurses := true, apart := false }
def FnFirmwareSaid : Prop := fnFirmwareRow.holds Try.pinned (OpenSpec.ofChange fnFirmwareSpec)

/-- ITS FALSE NEIGHBOUR: 'it returns false'. Refute it at one input. -/
def fnFirmwareWrong : ChangeSpec := { name := "fnFirmware", fn := fun _ => fun
  | [d] => { results := [.lit (.bool false)], args := [d] }
  | _ => none }
def FnFirmwareWrongFalsely : Prop := fnFirmwareRow.holds Try.pinned (OpenSpec.ofChange fnFirmwareWrong)

/-- 'laws.FnExactMakeBoot': WHATEVER THE INPUT: true; the input reads as it did. -/
def fnExactMakeBootSpec : ChangeSpec := { name := "fnExactMakeBoot", fn := fun _ => fun
  | [d1, d2, d3] => { results := [.lit (.bool true)], args := [d1, d2, d3] }
  | _ => none }
def fnExactMakeBootRow : OpenClaim := { program := "ytnopbegjbbbdhaa", sum := "ef1f8c60473a4637885c2d2b2c2073ee094cbc5f4f7586867e4a1695394355cf", func := "loop.example/g00038/laws.FnExactMakeBoot", spec := "fnExactMakeBoot", inPlace := ["internal/abi.NoEscape", "internal/bytealg.MakeNoZero"], unfollowed := true, recurses := true, apart := false }
def FnExactMakeBootSaid : Prop := fnExactMakeBootRow.holds Try.pinned (OpenSpec.ofChange fnExactMakeBootSpec)

/-- ITS FALSE NEIGHBOUR: 'it returns false'. Refute it at one input. -/
def fnExactMakeBootWrong : ChangeSpec := { name := "fnExactMakeBoot", fn := fun _ => fun
  | [d1, d2, d3] => { results := [.lit (.bool false)], args := [d1, d2, d3] }
  | _ => none }
def FnExactMakeBootWrongFalsely : Prop := fnExactMakeBootRow.holds Try.pinned (OpenSpec.ofChange fnExactMakeBootWrong)

/-- 'laws.FnExactUnpackEvents': WHATEVER THE INPUT: true; the input reads as it did. -/
def fnExactUnpackEventsSpec : ChangeSpec := { name := "fnExactUnpackEvents", fn := fun _ => fun
  | [d] => { results := [.lit (.bool true)], args := [d] }
  | _ => none }
def fnExactUnpackEventsRow : OpenClaim := { program := "ytnopbegjbbbdhaa", sum := "ef1f8c60473a4637885c2d2b2c2073ee094cbc5f4f7586867e4a1695394355cf", func := "loop.example/g00038/laws.FnExactUnpackEvents", spec := "fnExactUnpackEvents", inPlace := ["internal/abi.NoEscape", "internal/bytealg.MakeNoZero"], apart := false }
def FnExactUnpackEventsSaid : Prop := fnExactUnpackEventsRow.holds Try.pinned (OpenSpec.ofChange fnExactUnpackEventsSpec)

/-- ITS FALSE NEIGHBOUR: 'it returns false'. Refute it at one input. -/
def fnExactUnpackEventsWrong : ChangeSpec := { name := "fnExactUnpackEvents", fn := fun _ => fun
  | [d] => { results := [.lit (.bool false)], args := [d] }
  | _ => none }
def FnExactUnpackEventsWrongFalsely : Prop := fnExactUnpackEventsRow.holds Try.pinned (OpenSpec.ofChange fnExactUnpackEventsWrong)

/-- 'laws.FnWalked': WHATEVER THE INPUT: true; the input reads as it did. -/
def fnWalkedSpec : ChangeSpec := { name := "fnWalked", fn := fun _ => fun
  | [d] => { results := [.lit (.bool true)], args := [d] }
  | _ => none }
def fnWalkedRow : OpenClaim := { program := "ytnopbegjbbbdhaa", sum := "ef1f8c60473a4637885c2d2b2c2073ee094cbc5f4f7586867e4a1695394355cf", func := "loop.example/g00038/laws.FnWalked", spec := "fnWalked", apart := false }
def FnWalkedSaid : Prop := fnWalkedRow.holds Try.pinned (OpenSpec.ofChange fnWalkedSpec)

/-- ITS FALSE NEIGHBOUR: 'it returns false'. Refute it at one input. -/
def fnWalkedWrong : ChangeSpec := { name := "fnWalked", fn := fun _ => fun
  | [d] => { results := [.lit (.bool false)], args := [d] }
  | _ => none }
def FnWalkedWrongFalsely : Prop := fnWalkedRow.holds Try.pinned (OpenSpec.ofChange fnWalkedWrong)

/-- 'laws.FnExactWalkTwo': WHATEVER THE INPUT: true; the input reads as it did. -/
def fnExactWalkTwoSpec : ChangeSpec := { name := "fnExactWalkTwo", fn := fun _ => fun
  | [d1, d2, d3, d4, d5, d6] => { results := [.lit (.bool true)], args := [d1, d2, d3, d4, d5, d6] }
  | _ => none }
def fnExactWalkTwoRow : OpenClaim := { program := "ytnopbegjbbbdhaa", sum := "ef1f8c60473a4637885c2d2b2c2073ee094cbc5f4f7586867e4a1695394355cf", func := "loop.example/g00038/laws.FnExactWalkTwo", spec := "fnExactWalkTwo", unfollowed := true, recurses := true, apart := false }
def FnExactWalkTwoSaid : Prop := fnExactWalkTwoRow.holds Try.pinned (OpenSpec.ofChange fnExactWalkTwoSpec)

/-- ITS FALSE NEIGHBOUR: 'it returns false'. Refute it at one input. -/
def fnExactWalkTwoWrong : ChangeSpec := { name := "fnExactWalkTwo", fn := fun _ => fun
  | [d1, d2, d3, d4, d5, d6] => { results := [.lit (.bool false)], args := [d1, d2, d3, d4, d5, d6] }
  | _ => none }
def FnExactWalkTwoWrongFalsely : Prop := fnExactWalkTwoRow.holds Try.pinned (OpenSpec.ofChange fnExactWalkTwoWrong)

/-- 'laws.FnTwoWalks': WHATEVER THE INPUT: true; the input reads as it did. -/
def fnTwoWalksSpec : ChangeSpec := { name := "fnTwoWalks", fn := fun _ => fun
  | [d] => { results := [.lit (.bool true)], args := [d] }
  | _ => none }
def fnTwoWalksRow : OpenClaim := { program := "ytnopbegjbbbdhaa", sum := "ef1f8c60473a4637885c2d2b2c2073ee094cbc5f4f7586867e4a1695394355cf", func := "loop.example/g00038/laws.FnTwoWalks", spec := "fnTwoWalks", unfollowed := true, recurses := true, apart := false }
def FnTwoWalksSaid : Prop := fnTwoWalksRow.holds Try.pinned (OpenSpec.ofChange fnTwoWalksSpec)

/-- ITS FALSE NEIGHBOUR: 'it returns false'. Refute it at one input. -/
def fnTwoWalksWrong : ChangeSpec := { name := "fnTwoWalks", fn := fun _ => fun
  | [d] => { results := [.lit (.bool false)], args := [d] }
  | _ => none }
def FnTwoWalksWrongFalsely : Prop := fnTwoWalksRow.holds Try.pinned (OpenSpec.ofChange fnTwoWalksWrong)

/-- 'laws.FnMapped': WHATEVER THE INPUT: true; the input reads as it did. -/
def fnMappedSpec : ChangeSpec := { name := "fnMapped", fn := fun _ => fun
  | [d] => { results := [.lit (.bool true)], args := [d] }
  | _ => none }
def fnMappedRow : OpenClaim := { program := "ytnopbegjbbbdhaa", sum := "ef1f8c60473a4637885c2d2b2c2073ee094cbc5f4f7586867e4a1695394355cf", func := "loop.example/g00038/laws.FnMapped", spec := "fnMapped", unfollowed := true, recurses := true, apart := false }
def FnMappedSaid : Prop := fnMappedRow.holds Try.pinned (OpenSpec.ofChange fnMappedSpec)

/-- ITS FALSE NEIGHBOUR: 'it returns false'. Refute it at one input. -/
def fnMappedWrong : ChangeSpec := { name := "fnMapped", fn := fun _ => fun
  | [d] => { results := [.lit (.bool false)], args := [d] }
  | _ => none }
def FnMappedWrongFalsely : Prop := fnMappedRow.holds Try.pinned (OpenSpec.ofChange fnMappedWrong)

/- THE SECOND FORM. 'bulk': how many values and letters a reading holds, each counted each time it is reached (what is shared counts as often as it is met; a slice's spare places count too). A statement '..UptoSaid' is the law's where the arguments, and the package variables that the reading takes, are together of bulk at most 1048576: NARROWER than '..Said'. Prove '..Said' where nothing that the law and all that it calls make is longer than what came in: it says more and counts as full. Else prove '..UptoSaid'. A law counts once. -/
mutual
def uptoBulk {H : Type} : DataW H → Nat
  | .lit (.string bytes) => bytes.length + 1
  | .lit _ => 1
  | .nil => 1
  | .ptr d => uptoBulk d + 1
  | .slice elems spare => uptoBulkAll elems + uptoBulkAll spare + 1
  | .agg parts => uptoBulkAll parts + 1
  | .iface _ d => uptoBulk d + 1
  | .map entries => uptoBulkEntries entries + 1
  | .held _ => 1
def uptoBulkAll {H : Type} : List (DataW H) → Nat
  | [] => 0
  | d :: r => uptoBulk d + uptoBulkAll r
def uptoBulkEntries {H : Type} : List (Lit × DataW H) → Nat
  | [] => 0
  | x :: r => uptoBulkEntry x + uptoBulkEntries r
def uptoBulkEntry {H : Type} : Lit × DataW H → Nat
  | (.string bytes, d) => bytes.length + uptoBulk d + 1
  | (_, d) => uptoBulk d + 1
 end
def uptoSmall : (H : Type) → List (DataW H) → Bool := fun _ ds => decide (uptoBulkAll ds ≤ 1048576)
def OpenSpec.upto (s : _root_.Go.ChangeSpec) : _root_.Go.OpenSpec := { _root_.Go.OpenSpec.ofChange s with cond := some uptoSmall }

/-- 'laws.FnExactWalk', WHERE WHAT IT READS IS OF BULK AT MOST 1048576: true; the input reads as it did. -/
def fnExactWalkUptoRow : OpenClaim := { program := "ytnopbegjbbbdhaa", sum := "ef1f8c60473a4637885c2d2b2c2073ee094cbc5f4f7586867e4a1695394355cf", func := "loop.example/g00038/laws.FnExactWalk", spec := "fnExactWalk", apart := false, narrowed := true }
def FnExactWalkUptoSaid : Prop := fnExactWalkUptoRow.holds Try.pinned (OpenSpec.upto fnExactWalkSpec)

/-- 'laws.FnExactDmaRead', WHERE WHAT IT READS IS OF BULK AT MOST 1048576: true; the input reads as it did. -/
def fnExactDmaReadUptoRow : OpenClaim := { program := "ytnopbegjbbbdhaa", sum := "ef1f8c60473a4637885c2d2b2c2073ee094cbc5f4f7586867e4a1695394355cf", func := "loop.example/g00038/laws.FnExactDmaRead", spec := "fnExactDmaRead", apart := false, narrowed := true }
def FnExactDmaReadUptoSaid : Prop := fnExactDmaReadUptoRow.holds Try.pinned (OpenSpec.upto fnExactDmaReadSpec)

/-- 'laws.FnExactDmaWrite', WHERE WHAT IT READS IS OF BULK AT MOST 1048576: true; the input reads as it did. -/
def fnExactDmaWriteUptoRow : OpenClaim := { program := "ytnopbegjbbbdhaa", sum := "ef1f8c60473a4637885c2d2b2c2073ee094cbc5f4f7586867e4a1695394355cf", func := "loop.example/g00038/laws.FnExactDmaWrite", spec := "fnExactDmaWrite", apart := false, narrowed := true }
def FnExactDmaWriteUptoSaid : Prop := fnExactDmaWriteUptoRow.holds Try.pinned (OpenSpec.upto fnExactDmaWriteSpec)

/-- 'laws.FnExactBoardOf', WHERE WHAT IT READS IS OF BULK AT MOST 1048576: true; the input reads as it did. -/
def fnExactBoardOfUptoRow : OpenClaim := { program := "ytnopbegjbbbdhaa", sum := "ef1f8c60473a4637885c2d2b2c2073ee094cbc5f4f7586867e4a1695394355cf", func := "loop.example/g00038/laws.FnExactBoardOf", spec := "fnExactBoardOf", unfollowed := true, recurses := true, apart := false, narrowed := true }
def FnExactBoardOfUptoSaid : Prop := fnExactBoardOfUptoRow.holds Try.pinned (OpenSpec.upto fnExactBoardOfSpec)

/-- 'laws.FnExactReadTables', WHERE WHAT IT READS IS OF BULK AT MOST 1048576: true; the input reads as it did. -/
def fnExactReadTablesUptoRow : OpenClaim := { program := "ytnopbegjbbbdhaa", sum := "ef1f8c60473a4637885c2d2b2c2073ee094cbc5f4f7586867e4a1695394355cf", func := "loop.example/g00038/laws.FnExactReadTables", spec := "fnExactReadTables", apart := false, narrowed := true }
def FnExactReadTablesUptoSaid : Prop := fnExactReadTablesUptoRow.holds Try.pinned (OpenSpec.upto fnExactReadTablesSpec)

/-- 'laws.FnFirmware', WHERE WHAT IT READS IS OF BULK AT MOST 1048576: true; the input reads as it did. -/
def fnFirmwareUptoRow : OpenClaim := { program := "ytnopbegjbbbdhaa", sum := "ef1f8c60473a4637885c2d2b2c2073ee094cbc5f4f7586867e4a1695394355cf", func := "loop.example/g00038/laws.FnFirmware", spec := "fnFirmware", unfollowed := true, recurses := true, apart := false, narrowed := true }
def FnFirmwareUptoSaid : Prop := fnFirmwareUptoRow.holds Try.pinned (OpenSpec.upto fnFirmwareSpec)

/-- 'laws.FnExactMakeBoot', WHERE WHAT IT READS IS OF BULK AT MOST 1048576: true; the input reads as it did. -/
def fnExactMakeBootUptoRow : OpenClaim := { program := "ytnopbegjbbbdhaa", sum := "ef1f8c60473a4637885c2d2b2c2073ee094cbc5f4f7586867e4a1695394355cf", func := "loop.example/g00038/laws.FnExactMakeBoot", spec := "fnExactMakeBoot", inPlace := ["internal/abi.NoEscape", "internal/bytealg.MakeNoZero"], unfollowed := true, recurses := true, apart := false, narrowed := true }
def FnExactMakeBootUptoSaid : Prop := fnExactMakeBootUptoRow.holds Try.pinned (OpenSpec.upto fnExactMakeBootSpec)

/-- 'laws.FnExactUnpackEvents', WHERE WHAT IT READS IS OF BULK AT MOST 1048576: true; the input reads as it did. -/
def fnExactUnpackEventsUptoRow : OpenClaim := { program := "ytnopbegjbbbdhaa", sum := "ef1f8c60473a4637885c2d2b2c2073ee094cbc5f4f7586867e4a1695394355cf", func := "loop.example/g00038/laws.FnExactUnpackEvents", spec := "fnExactUnpackEvents", inPlace := ["internal/abi.NoEscape", "internal/bytealg.MakeNoZero"], apart := false, narrowed := true }
def FnExactUnpackEventsUptoSaid : Prop := fnExactUnpackEventsUptoRow.holds Try.pinned (OpenSpec.upto fnExactUnpackEventsSpec)

/-- 'laws.FnWalked', WHERE WHAT IT READS IS OF BULK AT MOST 1048576: true; the input reads as it did. -/
def fnWalkedUptoRow : OpenClaim := { program := "ytnopbegjbbbdhaa", sum := "ef1f8c60473a4637885c2d2b2c2073ee094cbc5f4f7586867e4a1695394355cf", func := "loop.example/g00038/laws.FnWalked", spec := "fnWalked", apart := false, narrowed := true }
def FnWalkedUptoSaid : Prop := fnWalkedUptoRow.holds Try.pinned (OpenSpec.upto fnWalkedSpec)

/-- 'laws.FnExactWalkTwo', WHERE WHAT IT READS IS OF BULK AT MOST 1048576: true; the input reads as it did. -/
def fnExactWalkTwoUptoRow : OpenClaim := { program := "ytnopbegjbbbdhaa", sum := "ef1f8c60473a4637885c2d2b2c2073ee094cbc5f4f7586867e4a1695394355cf", func := "loop.example/g00038/laws.FnExactWalkTwo", spec := "fnExactWalkTwo", unfollowed := true, recurses := true, apart := false, narrowed := true }
def FnExactWalkTwoUptoSaid : Prop := fnExactWalkTwoUptoRow.holds Try.pinned (OpenSpec.upto fnExactWalkTwoSpec)

/-- 'laws.FnTwoWalks', WHERE WHAT IT READS IS OF BULK AT MOST 1048576: true; the input reads as it did. -/
def fnTwoWalksUptoRow : OpenClaim := { program := "ytnopbegjbbbdhaa", sum := "ef1f8c60473a4637885c2d2b2c2073ee094cbc5f4f7586867e4a1695394355cf", func := "loop.example/g00038/laws.FnTwoWalks", spec := "fnTwoWalks", unfollowed := true, recurses := true, apart := false, narrowed := true }
def FnTwoWalksUptoSaid : Prop := fnTwoWalksUptoRow.holds Try.pinned (OpenSpec.upto fnTwoWalksSpec)

/-- 'laws.FnMapped', WHERE WHAT IT READS IS OF BULK AT MOST 1048576: true; the input reads as it did. -/
def fnMappedUptoRow : OpenClaim := { program := "ytnopbegjbbbdhaa", sum := "ef1f8c60473a4637885c2d2b2c2073ee094cbc5f4f7586867e4a1695394355cf", func := "loop.example/g00038/laws.FnMapped", spec := "fnMapped", unfollowed := true, recurses := true, apart := false, narrowed := true }
def FnMappedUptoSaid : Prop := fnMappedUptoRow.holds Try.pinned (OpenSpec.upto fnMappedSpec)

end Rows
end Go.Proofs.Ytnopbegjbbbdhaa
