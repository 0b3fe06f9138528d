/-
  No cell of these rows narrows 'for every input' (looked for: loops, veiled, ifaces, maps, wideKeys, modest, calm, conditions, laid).
  DERIVED. THE GIVEN ROWS OF THIS SEAT. 12 by the template 'for every input the law returns true; each argument reads behind the call as it read before'; 0 by the template 'total and deterministic' (their statements: YtjimjkhpahegjaaTotals.lean).
  GIVEN WITH THE SEED: the statements are not yours to turn. If you find one false, say at which input.
  Laid BY PROGRAM, IN A SANDBOX (cutbox-rows.mjs): the forced cells as the released guide's own fill.sh prints them over the translation f161bd9d13cc8a31… (all of the seat's roots in one cut). By AI agents, Wed Nov 11 2026. No macro, syntax, notation, axiom, sorry.
-/
import Derived.Test.YtjimjkhpahegjaaChecked
import GoSem.Claim
import GoSem.ClaimJoined
import GoSem.ClaimMapViews
import Derived.JoinedTies
import Derived.KernelRfl
namespace Go.Proofs.Ytjimjkhpahegjaa
/- THE CELL 'sum', in the pinned program and in every row, IS THE sha256 OF THE DUMP (.gsa) THAT YtjimjkhpahegjaaProg.lean LOADS. Nothing in Lean hashes anything: it is a label: what it is worth is what the hold of that sum in a sandbox is worth. -/
noncomputable def Try.pinned : Pinned := { name := "ytjimjkhpahegjaa", sum := "f161bd9d13cc8a31cd44d4b17097e6141e457e55a84930ea87f5709472e8f82b", checked := Try.checked }
namespace Rows
def none {H : Type} : Left H := { results := [], args := [] }

/-- 'laws.FnExactFrameFault': WHATEVER THE INPUT: true; the input reads as it did. -/
def fnExactFrameFaultSpec : ChangeSpec := { name := "fnExactFrameFault", fn := fun _ => fun
  | [d] => { results := [.lit (.bool true)], args := [d] }
  | _ => none }
def fnExactFrameFaultRow : OpenClaim := { program := "ytjimjkhpahegjaa", sum := "f161bd9d13cc8a31cd44d4b17097e6141e457e55a84930ea87f5709472e8f82b", func := "loop.example/g00038/laws.FnExactFrameFault", spec := "fnExactFrameFault", apart := false }
def FnExactFrameFaultSaid : Prop := fnExactFrameFaultRow.holds Try.pinned (OpenSpec.ofChange fnExactFrameFaultSpec)

/-- ITS FALSE NEIGHBOUR: 'it returns false'. Refute it at one input. -/
def fnExactFrameFaultWrong : ChangeSpec := { name := "fnExactFrameFault", fn := fun _ => fun
  | [d] => { results := [.lit (.bool false)], args := [d] }
  | _ => none }
def FnExactFrameFaultWrongFalsely : Prop := fnExactFrameFaultRow.holds Try.pinned (OpenSpec.ofChange fnExactFrameFaultWrong)

/-- 'laws.FnExactEventsFault': WHATEVER THE INPUT: true; the input reads as it did. -/
def fnExactEventsFaultSpec : ChangeSpec := { name := "fnExactEventsFault", fn := fun _ => fun
  | [d] => { results := [.lit (.bool true)], args := [d] }
  | _ => none }
def fnExactEventsFaultRow : OpenClaim := { program := "ytjimjkhpahegjaa", sum := "f161bd9d13cc8a31cd44d4b17097e6141e457e55a84930ea87f5709472e8f82b", func := "loop.example/g00038/laws.FnExactEventsFault", spec := "fnExactEventsFault", apart := false }
def FnExactEventsFaultSaid : Prop := fnExactEventsFaultRow.holds Try.pinned (OpenSpec.ofChange fnExactEventsFaultSpec)

/-- ITS FALSE NEIGHBOUR: 'it returns false'. Refute it at one input. -/
def fnExactEventsFaultWrong : ChangeSpec := { name := "fnExactEventsFault", fn := fun _ => fun
  | [d] => { results := [.lit (.bool false)], args := [d] }
  | _ => none }
def FnExactEventsFaultWrongFalsely : Prop := fnExactEventsFaultRow.holds Try.pinned (OpenSpec.ofChange fnExactEventsFaultWrong)

/-- 'laws.FnExactBoardFault': WHATEVER THE INPUT: true; the input reads as it did. -/
def fnExactBoardFaultSpec : ChangeSpec := { name := "fnExactBoardFault", fn := fun _ => fun
  | [d] => { results := [.lit (.bool true)], args := [d] }
  | _ => none }
def fnExactBoardFaultRow : OpenClaim := { program := "ytjimjkhpahegjaa", sum := "f161bd9d13cc8a31cd44d4b17097e6141e457e55a84930ea87f5709472e8f82b", func := "loop.example/g00038/laws.FnExactBoardFault", spec := "fnExactBoardFault", apart := false }
def FnExactBoardFaultSaid : Prop := fnExactBoardFaultRow.holds Try.pinned (OpenSpec.ofChange fnExactBoardFaultSpec)

/-- ITS FALSE NEIGHBOUR: 'it returns false'. Refute it at one input. -/
def fnExactBoardFaultWrong : ChangeSpec := { name := "fnExactBoardFault", fn := fun _ => fun
  | [d] => { results := [.lit (.bool false)], args := [d] }
  | _ => none }
def FnExactBoardFaultWrongFalsely : Prop := fnExactBoardFaultRow.holds Try.pinned (OpenSpec.ofChange fnExactBoardFaultWrong)

/-- 'laws.FnExactVcpusFault': WHATEVER THE INPUT: true; the input reads as it did. -/
def fnExactVcpusFaultSpec : ChangeSpec := { name := "fnExactVcpusFault", fn := fun _ => fun
  | [d1, d2] => { results := [.lit (.bool true)], args := [d1, d2] }
  | _ => none }
def fnExactVcpusFaultRow : OpenClaim := { program := "ytjimjkhpahegjaa", sum := "f161bd9d13cc8a31cd44d4b17097e6141e457e55a84930ea87f5709472e8f82b", func := "loop.example/g00038/laws.FnExactVcpusFault", spec := "fnExactVcpusFault", apart := false }
def FnExactVcpusFaultSaid : Prop := fnExactVcpusFaultRow.holds Try.pinned (OpenSpec.ofChange fnExactVcpusFaultSpec)

/-- ITS FALSE NEIGHBOUR: 'it returns false'. Refute it at one input. -/
def fnExactVcpusFaultWrong : ChangeSpec := { name := "fnExactVcpusFault", fn := fun _ => fun
  | [d1, d2] => { results := [.lit (.bool false)], args := [d1, d2] }
  | _ => none }
def FnExactVcpusFaultWrongFalsely : Prop := fnExactVcpusFaultRow.holds Try.pinned (OpenSpec.ofChange fnExactVcpusFaultWrong)

/-- 'laws.FnExactAdmit': WHATEVER THE INPUT: true; the input reads as it did. -/
def fnExactAdmitSpec : ChangeSpec := { name := "fnExactAdmit", fn := fun _ => fun
  | [d] => { results := [.lit (.bool true)], args := [d] }
  | _ => none }
def fnExactAdmitRow : OpenClaim := { program := "ytjimjkhpahegjaa", sum := "f161bd9d13cc8a31cd44d4b17097e6141e457e55a84930ea87f5709472e8f82b", func := "loop.example/g00038/laws.FnExactAdmit", spec := "fnExactAdmit", unfollowed := true, recurses := true, apart := false }
def FnExactAdmitSaid : Prop := fnExactAdmitRow.holds Try.pinned (OpenSpec.ofChange fnExactAdmitSpec)

/-- ITS FALSE NEIGHBOUR: 'it returns false'. Refute it at one input. -/
def fnExactAdmitWrong : ChangeSpec := { name := "fnExactAdmit", fn := fun _ => fun
  | [d] => { results := [.lit (.bool false)], args := [d] }
  | _ => none }
def FnExactAdmitWrongFalsely : Prop := fnExactAdmitRow.holds Try.pinned (OpenSpec.ofChange fnExactAdmitWrong)

/-- 'laws.FnExactWrapFrame': WHATEVER THE INPUT: true; the input reads as it did. -/
def fnExactWrapFrameSpec : ChangeSpec := { name := "fnExactWrapFrame", fn := fun _ => fun
  | [d1, d2, d3, d4] => { results := [.lit (.bool true)], args := [d1, d2, d3, d4] }
  | _ => none }
def fnExactWrapFrameRow : OpenClaim := { program := "ytjimjkhpahegjaa", sum := "f161bd9d13cc8a31cd44d4b17097e6141e457e55a84930ea87f5709472e8f82b", func := "loop.example/g00038/laws.FnExactWrapFrame", spec := "fnExactWrapFrame", inPlace := ["internal/abi.NoEscape", "internal/bytealg.MakeNoZero"], apart := false }
def FnExactWrapFrameSaid : Prop := fnExactWrapFrameRow.holds Try.pinned (OpenSpec.ofChange fnExactWrapFrameSpec)

/-- ITS FALSE NEIGHBOUR: 'it returns false'. Refute it at one input. -/
def fnExactWrapFrameWrong : ChangeSpec := { name := "fnExactWrapFrame", fn := fun _ => fun
  | [d1, d2, d3, d4] => { results := [.lit (.bool false)], args := [d1, d2, d3, d4] }
  | _ => none }
def FnExactWrapFrameWrongFalsely : Prop := fnExactWrapFrameRow.holds Try.pinned (OpenSpec.ofChange fnExactWrapFrameWrong)

/-- 'laws.FnDeadlines': WHATEVER THE INPUT: true; the input reads as it did. -/
def fnDeadlinesSpec : ChangeSpec := { name := "fnDeadlines", fn := fun _ => fun
  | [d] => { results := [.lit (.bool true)], args := [d] }
  | _ => none }
def fnDeadlinesRow : OpenClaim := { program := "ytjimjkhpahegjaa", sum := "f161bd9d13cc8a31cd44d4b17097e6141e457e55a84930ea87f5709472e8f82b", func := "loop.example/g00038/laws.FnDeadlines", spec := "fnDeadlines", unfollowed := true, recurses := true, apart := false }
def FnDeadlinesSaid : Prop := fnDeadlinesRow.holds Try.pinned (OpenSpec.ofChange fnDeadlinesSpec)

/-- ITS FALSE NEIGHBOUR: 'it returns false'. Refute it at one input. -/
def fnDeadlinesWrong : ChangeSpec := { name := "fnDeadlines", fn := fun _ => fun
  | [d] => { results := [.lit (.bool false)], args := [d] }
  | _ => none }
def FnDeadlinesWrongFalsely : Prop := fnDeadlinesRow.holds Try.pinned (OpenSpec.ofChange fnDeadlinesWrong)

/-- 'laws.FnExactPackEvents': WHATEVER THE INPUT: true; the input reads as it did. -/
def fnExactPackEventsSpec : ChangeSpec := { name := "fnExactPackEvents", fn := fun _ => fun
  | [d] => { results := [.lit (.bool true)], args := [d] }
  | _ => none }
def fnExactPackEventsRow : OpenClaim := { program := "ytjimjkhpahegjaa", sum := "f161bd9d13cc8a31cd44d4b17097e6141e457e55a84930ea87f5709472e8f82b", func := "loop.example/g00038/laws.FnExactPackEvents", spec := "fnExactPackEvents", inPlace := ["internal/abi.NoEscape", "internal/bytealg.MakeNoZero"], apart := false }
def FnExactPackEventsSaid : Prop := fnExactPackEventsRow.holds Try.pinned (OpenSpec.ofChange fnExactPackEventsSpec)

/-- ITS FALSE NEIGHBOUR: 'it returns false'. Refute it at one input. -/
def fnExactPackEventsWrong : ChangeSpec := { name := "fnExactPackEvents", fn := fun _ => fun
  | [d] => { results := [.lit (.bool false)], args := [d] }
  | _ => none }
def FnExactPackEventsWrongFalsely : Prop := fnExactPackEventsRow.holds Try.pinned (OpenSpec.ofChange fnExactPackEventsWrong)

/-- 'laws.FnExactTablesOf': WHATEVER THE INPUT: true; the input reads as it did. -/
def fnExactTablesOfSpec : ChangeSpec := { name := "fnExactTablesOf", fn := fun _ => fun
  | [d] => { results := [.lit (.bool true)], args := [d] }
  | _ => none }
def fnExactTablesOfRow : OpenClaim := { program := "ytjimjkhpahegjaa", sum := "f161bd9d13cc8a31cd44d4b17097e6141e457e55a84930ea87f5709472e8f82b", func := "loop.example/g00038/laws.FnExactTablesOf", spec := "fnExactTablesOf", apart := false }
def FnExactTablesOfSaid : Prop := fnExactTablesOfRow.holds Try.pinned (OpenSpec.ofChange fnExactTablesOfSpec)

/-- ITS FALSE NEIGHBOUR: 'it returns false'. Refute it at one input. -/
def fnExactTablesOfWrong : ChangeSpec := { name := "fnExactTablesOf", fn := fun _ => fun
  | [d] => { results := [.lit (.bool false)], args := [d] }
  | _ => none }
def FnExactTablesOfWrongFalsely : Prop := fnExactTablesOfRow.holds Try.pinned (OpenSpec.ofChange fnExactTablesOfWrong)

/-- 'laws.FnExactPutTables': WHATEVER THE INPUT: true; the input reads as it did. -/
def fnExactPutTablesSpec : ChangeSpec := { name := "fnExactPutTables", fn := fun _ => fun
  | [d1, d2, d3] => { results := [.lit (.bool true)], args := [d1, d2, d3] }
  | _ => none }
def fnExactPutTablesRow : OpenClaim := { program := "ytjimjkhpahegjaa", sum := "f161bd9d13cc8a31cd44d4b17097e6141e457e55a84930ea87f5709472e8f82b", func := "loop.example/g00038/laws.FnExactPutTables", spec := "fnExactPutTables", unfollowed := true, recurses := true, apart := false }
def FnExactPutTablesSaid : Prop := fnExactPutTablesRow.holds Try.pinned (OpenSpec.ofChange fnExactPutTablesSpec)

/-- ITS FALSE NEIGHBOUR: 'it returns false'. Refute it at one input. -/
def fnExactPutTablesWrong : ChangeSpec := { name := "fnExactPutTables", fn := fun _ => fun
  | [d1, d2, d3] => { results := [.lit (.bool false)], args := [d1, d2, d3] }
  | _ => none }
def FnExactPutTablesWrongFalsely : Prop := fnExactPutTablesRow.holds Try.pinned (OpenSpec.ofChange fnExactPutTablesWrong)

/-- 'laws.FnExactDropPass': WHATEVER THE INPUT: true; the input reads as it did. -/
def fnExactDropPassSpec : ChangeSpec := { name := "fnExactDropPass", fn := fun _ => fun
  | [d1, d2] => { results := [.lit (.bool true)], args := [d1, d2] }
  | _ => none }
def fnExactDropPassRow : OpenClaim := { program := "ytjimjkhpahegjaa", sum := "f161bd9d13cc8a31cd44d4b17097e6141e457e55a84930ea87f5709472e8f82b", func := "loop.example/g00038/laws.FnExactDropPass", spec := "fnExactDropPass", unfollowed := true, recurses := true, apart := false }
def FnExactDropPassSaid : Prop := fnExactDropPassRow.holds Try.pinned (OpenSpec.ofChange fnExactDropPassSpec)

/-- ITS FALSE NEIGHBOUR: 'it returns false'. Refute it at one input. -/
def fnExactDropPassWrong : ChangeSpec := { name := "fnExactDropPass", fn := fun _ => fun
  | [d1, d2] => { results := [.lit (.bool false)], args := [d1, d2] }
  | _ => none }
def FnExactDropPassWrongFalsely : Prop := fnExactDropPassRow.holds Try.pinned (OpenSpec.ofChange fnExactDropPassWrong)

/-- 'laws.FnExactQuoteOf': WHATEVER THE INPUT: true; the input reads as it did. -/
def fnExactQuoteOfSpec : ChangeSpec := { name := "fnExactQuoteOf", fn := fun _ => fun
  | [d1, d2, d3] => { results := [.lit (.bool true)], args := [d1, d2, d3] }
  | _ => none }
def fnExactQuoteOfRow : OpenClaim := { program := "ytjimjkhpahegjaa", sum := "f161bd9d13cc8a31cd44d4b17097e6141e457e55a84930ea87f5709472e8f82b", func := "loop.example/g00038/laws.FnExactQuoteOf", spec := "fnExactQuoteOf", inPlace := ["internal/abi.NoEscape", "internal/bytealg.MakeNoZero"], unfollowed := true, recurses := true, apart := false }
def FnExactQuoteOfSaid : Prop := fnExactQuoteOfRow.holds Try.pinned (OpenSpec.ofChange fnExactQuoteOfSpec)

/-- ITS FALSE NEIGHBOUR: 'it returns false'. Refute it at one input. -/
def fnExactQuoteOfWrong : ChangeSpec := { name := "fnExactQuoteOf", fn := fun _ => fun
  | [d1, d2, d3] => { results := [.lit (.bool false)], args := [d1, d2, d3] }
  | _ => none }
def FnExactQuoteOfWrongFalsely : Prop := fnExactQuoteOfRow.holds Try.pinned (OpenSpec.ofChange fnExactQuoteOfWrong)

/- THE SECOND FORM. 'bulk': how many values and letters a reading holds, each counted each time it is reached (what is shared counts as often as it is met; a slice's spare places count too). A statement '..UptoSaid' is the law's where the arguments, and the package variables that the reading takes, are together of bulk at most 1048576: NARROWER than '..Said'. Prove '..Said' where nothing that the law and all that it calls make is longer than what came in: it says more and counts as full. Else prove '..UptoSaid'. A law counts once. -/
mutual
def uptoBulk {H : Type} : DataW H → Nat
  | .lit (.string bytes) => bytes.length + 1
  | .lit _ => 1
  | .nil => 1
  | .ptr d => uptoBulk d + 1
  | .slice elems spare => uptoBulkAll elems + uptoBulkAll spare + 1
  | .agg parts => uptoBulkAll parts + 1
  | .iface _ d => uptoBulk d + 1
  | .map entries => uptoBulkEntries entries + 1
  | .held _ => 1
def uptoBulkAll {H : Type} : List (DataW H) → Nat
  | [] => 0
  | d :: r => uptoBulk d + uptoBulkAll r
def uptoBulkEntries {H : Type} : List (Lit × DataW H) → Nat
  | [] => 0
  | x :: r => uptoBulkEntry x + uptoBulkEntries r
def uptoBulkEntry {H : Type} : Lit × DataW H → Nat
  | (.string bytes, d) => bytes.length + uptoBulk d + 1
  | (_, d) => uptoBulk d + 1
 end
def uptoSmall : (H : Type) → List (DataW H) → Bool := fun _ ds => decide (uptoBulkAll ds ≤ 1048576)
def OpenSpec.upto (s : _root_.Go.ChangeSpec) : _root_.Go.OpenSpec := { _root_.Go.OpenSpec.ofChange s with cond := some uptoSmall }

/-- 'laws.FnExactFrameFault', WHERE WHAT IT READS IS OF BULK AT MOST 1048576: true; the input reads as it did. -/
def fnExactFrameFaultUptoRow : OpenClaim := { program := "ytjimjkhpahegjaa", sum := "f161bd9d13cc8a31cd44d4b17097e6141e457e55a84930ea87f5709472e8f82b", func := "loop.example/g00038/laws.FnExactFrameFault", spec := "fnExactFrameFault", apart := false, narrowed := true }
def FnExactFrameFaultUptoSaid : Prop := fnExactFrameFaultUptoRow.holds Try.pinned (OpenSpec.upto fnExactFrameFaultSpec)

/-- 'laws.FnExactEventsFault', WHERE WHAT IT READS IS OF BULK AT MOST 1048576: true; the input reads as it did. -/
def fnExactEventsFaultUptoRow : OpenClaim := { program := "ytjimjkhpahegjaa", sum := "f161bd9d13cc8a31cd44d4b17097e6141e457e55a84930ea87f5709472e8f82b", func := "loop.example/g00038/laws.FnExactEventsFault", spec := "fnExactEventsFault", apart := false, narrowed := true }
def FnExactEventsFaultUptoSaid : Prop := fnExactEventsFaultUptoRow.holds Try.pinned (OpenSpec.upto fnExactEventsFaultSpec)

/-- 'laws.FnExactBoardFault', WHERE WHAT IT READS IS OF BULK AT MOST 1048576: true; the input reads as it did. -/
def fnExactBoardFaultUptoRow : OpenClaim := { program := "ytjimjkhpahegjaa", sum := "f161bd9d13cc8a31cd44d4b17097e6141e457e55a84930ea87f5709472e8f82b", func := "loop.example/g00038/laws.FnExactBoardFault", spec := "fnExactBoardFault", apart := false, narrowed := true }
def FnExactBoardFaultUptoSaid : Prop := fnExactBoardFaultUptoRow.holds Try.pinned (OpenSpec.upto fnExactBoardFaultSpec)

/-- 'laws.FnExactVcpusFault', WHERE WHAT IT READS IS OF BULK AT MOST 1048576: true; the input reads as it did. -/
def fnExactVcpusFaultUptoRow : OpenClaim := { program := "ytjimjkhpahegjaa", sum := "f161bd9d13cc8a31cd44d4b17097e6141e457e55a84930ea87f5709472e8f82b", func := "loop.example/g00038/laws.FnExactVcpusFault", spec := "fnExactVcpusFault", apart := false, narrowed := true }
def FnExactVcpusFaultUptoSaid : Prop := fnExactVcpusFaultUptoRow.holds Try.pinned (OpenSpec.upto fnExactVcpusFaultSpec)

/-- 'laws.FnExactAdmit', WHERE WHAT IT READS IS OF BULK AT MOST 1048576: true; the input reads as it did. -/
def fnExactAdmitUptoRow : OpenClaim := { program := "ytjimjkhpahegjaa", sum := "f161bd9d13cc8a31cd44d4b17097e6141e457e55a84930ea87f5709472e8f82b", func := "loop.example/g00038/laws.FnExactAdmit", spec := "fnExactAdmit", unfollowed := true, recurses := true, apart := false, narrowed := true }
def FnExactAdmitUptoSaid : Prop := fnExactAdmitUptoRow.holds Try.pinned (OpenSpec.upto fnExactAdmitSpec)

/-- 'laws.FnExactWrapFrame', WHERE WHAT IT READS IS OF BULK AT MOST 1048576: true; the input reads as it did. -/
def fnExactWrapFrameUptoRow : OpenClaim := { program := "ytjimjkhpahegjaa", sum := "f161bd9d13cc8a31cd44d4b17097e6141e457e55a84930ea87f5709472e8f82b", func := "loop.example/g00038/laws.FnExactWrapFrame", spec := "fnExactWrapFrame", inPlace := ["internal/abi.NoEscape", "internal/bytealg.MakeNoZero"], apart := false, narrowed := true }
def FnExactWrapFrameUptoSaid : Prop := fnExactWrapFrameUptoRow.holds Try.pinned (OpenSpec.upto fnExactWrapFrameSpec)

/-- 'laws.FnDeadlines', WHERE WHAT IT READS IS OF BULK AT MOST 1048576: true; the input reads as it did. -/
def fnDeadlinesUptoRow : OpenClaim := { program := "ytjimjkhpahegjaa", sum := "f161bd9d13cc8a31cd44d4b17097e6141e457e55a84930ea87f5709472e8f82b", func := "loop.example/g00038/laws.FnDeadlines", spec := "fnDeadlines", unfollowed := true, recurses := true, apart := false, narrowed := true }
def FnDeadlinesUptoSaid : Prop := fnDeadlinesUptoRow.holds Try.pinned (OpenSpec.upto fnDeadlinesSpec)

/-- 'laws.FnExactPackEvents', WHERE WHAT IT READS IS OF BULK AT MOST 1048576: true; the input reads as it did. -/
def fnExactPackEventsUptoRow : OpenClaim := { program := "ytjimjkhpahegjaa", sum := "f161bd9d13cc8a31cd44d4b17097e6141e457e55a84930ea87f5709472e8f82b", func := "loop.example/g00038/laws.FnExactPackEvents", spec := "fnExactPackEvents", inPlace := ["internal/abi.NoEscape", "internal/bytealg.MakeNoZero"], apart := false, narrowed := true }
def FnExactPackEventsUptoSaid : Prop := fnExactPackEventsUptoRow.holds Try.pinned (OpenSpec.upto fnExactPackEventsSpec)

/-- 'laws.FnExactTablesOf', WHERE WHAT IT READS IS OF BULK AT MOST 1048576: true; the input reads as it did. -/
def fnExactTablesOfUptoRow : OpenClaim := { program := "ytjimjkhpahegjaa", sum := "f161bd9d13cc8a31cd44d4b17097e6141e457e55a84930ea87f5709472e8f82b", func := "loop.example/g00038/laws.FnExactTablesOf", spec := "fnExactTablesOf", apart := false, narrowed := true }
def FnExactTablesOfUptoSaid : Prop := fnExactTablesOfUptoRow.holds Try.pinned (OpenSpec.upto fnExactTablesOfSpec)

/-- 'laws.FnExactPutTables', WHERE WHAT IT READS IS OF BULK AT MOST 1048576: true; the input reads as it did. -/
def fnExactPutTablesUptoRow : OpenClaim := { program := "ytjimjkhpahegjaa", sum := "f161bd9d13cc8a31cd44d4b17097e6141e457e55a84930ea87f5709472e8f82b", func := "loop.example/g00038/laws.FnExactPutTables", spec := "fnExactPutTables", unfollowed := true, recurses := true, apart := false, narrowed := true }
def FnExactPutTablesUptoSaid : Prop := fnExactPutTablesUptoRow.holds Try.pinned (OpenSpec.upto fnExactPutTablesSpec)

/-- 'laws.FnExactDropPass', WHERE WHAT IT READS IS OF BULK AT MOST 1048576: true; the input reads as it did. -/
def fnExactDropPassUptoRow : OpenClaim := { program := "ytjimjkhpahegjaa", sum := "f161bd9d13cc8a31cd44d4b17097e6141e457e55a84930ea87f5709472e8f82b", func := "loop.example/g00038/laws.FnExactDropPass", spec := "fnExactDropPass", unfollowed := true, recurses := true, apart := false, narrowed := true }
def FnExactDropPassUptoSaid : Prop := fnExactDropPassUptoRow.holds Try.pinned (OpenSpec.upto fnExactDropPassSpec)

/-- 'laws.FnExactQuoteOf', WHERE WHAT IT READS IS OF BULK AT MOST 1048576: true; the input reads as it did. -/
def fnExactQuoteOfUptoRow : OpenClaim := { program := "ytjimjkhpahegjaa", sum := "f161bd9d13cc8a31cd44d4b17097e6141e457e55a84930ea87f5709472e8f82b", func := "loop.example/g00038/laws.FnExactQuoteOf", spec := "fnExactQuoteOf", inPlace := ["internal/abi.NoEscape", "internal/bytealg.MakeNoZero"], unfollowed := true, recurses := true, apart := false, narrowed := true }
def FnExactQuoteOfUptoSaid : Prop := fnExactQuoteOfUptoRow.holds Try.pinned (OpenSpec.upto fnExactQuoteOfSpec)

end Rows
end Go.Proofs.Ytjimjkhpahegjaa
