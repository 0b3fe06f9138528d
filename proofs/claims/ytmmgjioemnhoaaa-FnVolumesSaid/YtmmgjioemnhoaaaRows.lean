/-
  No cell of these rows narrows 'for every input' (looked for: loops, veiled, ifaces, maps, wideKeys, modest, calm, conditions, laid).
  DERIVED. THE GIVEN ROWS OF THIS SEAT. 9 by the template 'for every input the law returns true; each argument reads behind the call as it read before'; 0 by the template 'total and deterministic' (their statements: YtmmgjioemnhoaaaTotals.lean).
  GIVEN WITH THE SEED: the statements are not yours to turn. If you find one false, say at which input.
  Laid BY PROGRAM, IN A SANDBOX (cutbox-rows.mjs): the forced cells as the released guide's own fill.sh prints them over the translation a96b76c8b0122b85… (all of the seat's roots in one cut). By AI agents, Wed Nov 11 2026. No macro, syntax, notation, axiom, sorry.
-/
import Derived.Test.YtmmgjioemnhoaaaChecked
import GoSem.Claim
import GoSem.ClaimJoined
import GoSem.ClaimMapViews
import Derived.JoinedTies
import Derived.KernelRfl
namespace Go.Proofs.Ytmmgjioemnhoaaa
/- THE CELL 'sum', in the pinned program and in every row, IS THE sha256 OF THE DUMP (.gsa) THAT YtmmgjioemnhoaaaProg.lean LOADS. Nothing in Lean hashes anything: it is a label: what it is worth is what the hold of that sum in a sandbox is worth. -/
noncomputable def Try.pinned : Pinned := { name := "ytmmgjioemnhoaaa", sum := "a96b76c8b0122b856e2c96e5ee8c85265aded5117d592125628217f478b7d2e8", checked := Try.checked }
namespace Rows
def none {H : Type} : Left H := { results := [], args := [] }

/-- 'laws.FnExactSeal': WHATEVER THE INPUT: true; the input reads as it did. -/
def fnExactSealSpec : ChangeSpec := { name := "fnExactSeal", fn := fun _ => fun
  | [d1, d2, d3, d4] => { results := [.lit (.bool true)], args := [d1, d2, d3, d4] }
  | _ => none }
def fnExactSealRow : OpenClaim := { program := "ytmmgjioemnhoaaa", sum := "a96b76c8b0122b856e2c96e5ee8c85265aded5117d592125628217f478b7d2e8", func := "loop.example/g00038/laws.FnExactSeal", spec := "fnExactSeal", inPlace := ["internal/abi.NoEscape", "internal/bytealg.MakeNoZero"], unfollowed := true, recurses := true, apart := false }
def FnExactSealSaid : Prop := fnExactSealRow.holds Try.pinned (OpenSpec.ofChange fnExactSealSpec)

/-- ITS FALSE NEIGHBOUR: 'it returns false'. Refute it at one input. -/
def fnExactSealWrong : ChangeSpec := { name := "fnExactSeal", fn := fun _ => fun
  | [d1, d2, d3, d4] => { results := [.lit (.bool false)], args := [d1, d2, d3, d4] }
  | _ => none }
def FnExactSealWrongFalsely : Prop := fnExactSealRow.holds Try.pinned (OpenSpec.ofChange fnExactSealWrong)

/-- 'laws.FnExactUnseal': WHATEVER THE INPUT: true; the input reads as it did. -/
def fnExactUnsealSpec : ChangeSpec := { name := "fnExactUnseal", fn := fun _ => fun
  | [d1, d2, d3] => { results := [.lit (.bool true)], args := [d1, d2, d3] }
  | _ => none }
def fnExactUnsealRow : OpenClaim := { program := "ytmmgjioemnhoaaa", sum := "a96b76c8b0122b856e2c96e5ee8c85265aded5117d592125628217f478b7d2e8", func := "loop.example/g00038/laws.FnExactUnseal", spec := "fnExactUnseal", inPlace := ["internal/abi.NoEscape", "internal/bytealg.MakeNoZero"], unfollowed := true, recurses := true, apart := false }
def FnExactUnsealSaid : Prop := fnExactUnsealRow.holds Try.pinned (OpenSpec.ofChange fnExactUnsealSpec)

/-- ITS FALSE NEIGHBOUR: 'it returns false'. Refute it at one input. -/
def fnExactUnsealWrong : ChangeSpec := { name := "fnExactUnseal", fn := fun _ => fun
  | [d1, d2, d3] => { results := [.lit (.bool false)], args := [d1, d2, d3] }
  | _ => none }
def FnExactUnsealWrongFalsely : Prop := fnExactUnsealRow.holds Try.pinned (OpenSpec.ofChange fnExactUnsealWrong)

/-- 'laws.FnQuotes': WHATEVER THE INPUT: true; the input reads as it did. -/
def fnQuotesSpec : ChangeSpec := { name := "fnQuotes", fn := fun _ => fun
  | [d] => { results := [.lit (.bool true)], args := [d] }
  | _ => none }
def fnQuotesRow : OpenClaim := { program := "ytmmgjioemnhoaaa", sum := "a96b76c8b0122b856e2c96e5ee8c85265aded5117d592125628217f478b7d2e8", func := "loop.example/g00038/laws.FnQuotes", spec := "fnQuotes", inPlace := ["internal/abi.NoEscape", "internal/bytealg.MakeNoZero"], unfollowed := true, recurses := true, apart := false }
def FnQuotesSaid : Prop := fnQuotesRow.holds Try.pinned (OpenSpec.ofChange fnQuotesSpec)

/-- ITS FALSE NEIGHBOUR: 'it returns false'. Refute it at one input. -/
def fnQuotesWrong : ChangeSpec := { name := "fnQuotes", fn := fun _ => fun
  | [d] => { results := [.lit (.bool false)], args := [d] }
  | _ => none }
def FnQuotesWrongFalsely : Prop := fnQuotesRow.holds Try.pinned (OpenSpec.ofChange fnQuotesWrong)

/-- 'laws.FnExactMakeVolume': WHATEVER THE INPUT: true; the input reads as it did. -/
def fnExactMakeVolumeSpec : ChangeSpec := { name := "fnExactMakeVolume", fn := fun _ => fun
  | [d1, d2, d3] => { results := [.lit (.bool true)], args := [d1, d2, d3] }
  | _ => none }
def fnExactMakeVolumeRow : OpenClaim := { program := "ytmmgjioemnhoaaa", sum := "a96b76c8b0122b856e2c96e5ee8c85265aded5117d592125628217f478b7d2e8", func := "loop.example/g00038/laws.FnExactMakeVolume", spec := "fnExactMakeVolume", inPlace := ["internal/abi.NoEscape", "internal/bytealg.MakeNoZero"], unfollowed := true, recurses := true, apart := false }
def FnExactMakeVolumeSaid : Prop := fnExactMakeVolumeRow.holds Try.pinned (OpenSpec.ofChange fnExactMakeVolumeSpec)

/-- ITS FALSE NEIGHBOUR: 'it returns false'. Refute it at one input. -/
def fnExactMakeVolumeWrong : ChangeSpec := { name := "fnExactMakeVolume", fn := fun _ => fun
  | [d1, d2, d3] => { results := [.lit (.bool false)], args := [d1, d2, d3] }
  | _ => none }
def FnExactMakeVolumeWrongFalsely : Prop := fnExactMakeVolumeRow.holds Try.pinned (OpenSpec.ofChange fnExactMakeVolumeWrong)

/-- 'laws.FnExactOpenVolume': WHATEVER THE INPUT: true; the input reads as it did. -/
def fnExactOpenVolumeSpec : ChangeSpec := { name := "fnExactOpenVolume", fn := fun _ => fun
  | [d1, d2] => { results := [.lit (.bool true)], args := [d1, d2] }
  | _ => none }
def fnExactOpenVolumeRow : OpenClaim := { program := "ytmmgjioemnhoaaa", sum := "a96b76c8b0122b856e2c96e5ee8c85265aded5117d592125628217f478b7d2e8", func := "loop.example/g00038/laws.FnExactOpenVolume", spec := "fnExactOpenVolume", inPlace := ["internal/abi.NoEscape", "internal/bytealg.MakeNoZero"], unfollowed := true, recurses := true, apart := false }
def FnExactOpenVolumeSaid : Prop := fnExactOpenVolumeRow.holds Try.pinned (OpenSpec.ofChange fnExactOpenVolumeSpec)

/-- ITS FALSE NEIGHBOUR: 'it returns false'. Refute it at one input. -/
def fnExactOpenVolumeWrong : ChangeSpec := { name := "fnExactOpenVolume", fn := fun _ => fun
  | [d1, d2] => { results := [.lit (.bool false)], args := [d1, d2] }
  | _ => none }
def FnExactOpenVolumeWrongFalsely : Prop := fnExactOpenVolumeRow.holds Try.pinned (OpenSpec.ofChange fnExactOpenVolumeWrong)

/-- 'laws.FnCrypted': WHATEVER THE INPUT: true; the input reads as it did. -/
def fnCryptedSpec : ChangeSpec := { name := "fnCrypted", fn := fun _ => fun
  | [d] => { results := [.lit (.bool true)], args := [d] }
  | _ => none }
def fnCryptedRow : OpenClaim := { program := "ytmmgjioemnhoaaa", sum := "a96b76c8b0122b856e2c96e5ee8c85265aded5117d592125628217f478b7d2e8", func := "loop.example/g00038/laws.FnCrypted", spec := "fnCrypted", inPlace := ["internal/abi.NoEscape", "internal/bytealg.MakeNoZero"], unfollowed := true, recurses := true, apart := false }
def FnCryptedSaid : Prop := fnCryptedRow.holds Try.pinned (OpenSpec.ofChange fnCryptedSpec)

/-- ITS FALSE NEIGHBOUR: 'it returns false'. Refute it at one input. -/
def fnCryptedWrong : ChangeSpec := { name := "fnCrypted", fn := fun _ => fun
  | [d] => { results := [.lit (.bool false)], args := [d] }
  | _ => none }
def FnCryptedWrongFalsely : Prop := fnCryptedRow.holds Try.pinned (OpenSpec.ofChange fnCryptedWrong)

/-- 'laws.FnSealed': WHATEVER THE INPUT: true; the input reads as it did. -/
def fnSealedSpec : ChangeSpec := { name := "fnSealed", fn := fun _ => fun
  | [d1, d2] => { results := [.lit (.bool true)], args := [d1, d2] }
  | _ => none }
def fnSealedRow : OpenClaim := { program := "ytmmgjioemnhoaaa", sum := "a96b76c8b0122b856e2c96e5ee8c85265aded5117d592125628217f478b7d2e8", func := "loop.example/g00038/laws.FnSealed", spec := "fnSealed", inPlace := ["internal/abi.NoEscape", "internal/bytealg.MakeNoZero"], unfollowed := true, recurses := true, apart := false }
def FnSealedSaid : Prop := fnSealedRow.holds Try.pinned (OpenSpec.ofChange fnSealedSpec)

/-- ITS FALSE NEIGHBOUR: 'it returns false'. Refute it at one input. -/
def fnSealedWrong : ChangeSpec := { name := "fnSealed", fn := fun _ => fun
  | [d1, d2] => { results := [.lit (.bool false)], args := [d1, d2] }
  | _ => none }
def FnSealedWrongFalsely : Prop := fnSealedRow.holds Try.pinned (OpenSpec.ofChange fnSealedWrong)

/-- 'laws.FnVolumes': WHATEVER THE INPUT: true; the input reads as it did. -/
def fnVolumesSpec : ChangeSpec := { name := "fnVolumes", fn := fun _ => fun
  | [d1, d2] => { results := [.lit (.bool true)], args := [d1, d2] }
  | _ => none }
def fnVolumesRow : OpenClaim := { program := "ytmmgjioemnhoaaa", sum := "a96b76c8b0122b856e2c96e5ee8c85265aded5117d592125628217f478b7d2e8", func := "loop.example/g00038/laws.FnVolumes", spec := "fnVolumes", inPlace := ["internal/abi.NoEscape", "internal/bytealg.MakeNoZero"], unfollowed := true, recurses := true, apart := false }
def FnVolumesSaid : Prop := fnVolumesRow.holds Try.pinned (OpenSpec.ofChange fnVolumesSpec)

/-- ITS FALSE NEIGHBOUR: 'it returns false'. Refute it at one input. -/
def fnVolumesWrong : ChangeSpec := { name := "fnVolumes", fn := fun _ => fun
  | [d1, d2] => { results := [.lit (.bool false)], args := [d1, d2] }
  | _ => none }
def FnVolumesWrongFalsely : Prop := fnVolumesRow.holds Try.pinned (OpenSpec.ofChange fnVolumesWrong)

/-- 'laws.FnExactAddPass': WHATEVER THE INPUT: true; the input reads as it did. -/
def fnExactAddPassSpec : ChangeSpec := { name := "fnExactAddPass", fn := fun _ => fun
  | [d1, d2, d3, d4] => { results := [.lit (.bool true)], args := [d1, d2, d3, d4] }
  | _ => none }
def fnExactAddPassRow : OpenClaim := { program := "ytmmgjioemnhoaaa", sum := "a96b76c8b0122b856e2c96e5ee8c85265aded5117d592125628217f478b7d2e8", func := "loop.example/g00038/laws.FnExactAddPass", spec := "fnExactAddPass", inPlace := ["internal/abi.NoEscape", "internal/bytealg.MakeNoZero"], unfollowed := true, recurses := true, apart := false }
def FnExactAddPassSaid : Prop := fnExactAddPassRow.holds Try.pinned (OpenSpec.ofChange fnExactAddPassSpec)

/-- ITS FALSE NEIGHBOUR: 'it returns false'. Refute it at one input. -/
def fnExactAddPassWrong : ChangeSpec := { name := "fnExactAddPass", fn := fun _ => fun
  | [d1, d2, d3, d4] => { results := [.lit (.bool false)], args := [d1, d2, d3, d4] }
  | _ => none }
def FnExactAddPassWrongFalsely : Prop := fnExactAddPassRow.holds Try.pinned (OpenSpec.ofChange fnExactAddPassWrong)

/- THE SECOND FORM. 'bulk': how many values and letters a reading holds, each counted each time it is reached (what is shared counts as often as it is met; a slice's spare places count too). A statement '..UptoSaid' is the law's where the arguments, and the package variables that the reading takes, are together of bulk at most 1048576: NARROWER than '..Said'. Prove '..Said' where nothing that the law and all that it calls make is longer than what came in: it says more and counts as full. Else prove '..UptoSaid'. A law counts once. -/
mutual
def uptoBulk {H : Type} : DataW H → Nat
  | .lit (.string bytes) => bytes.length + 1
  | .lit _ => 1
  | .nil => 1
  | .ptr d => uptoBulk d + 1
  | .slice elems spare => uptoBulkAll elems + uptoBulkAll spare + 1
  | .agg parts => uptoBulkAll parts + 1
  | .iface _ d => uptoBulk d + 1
  | .map entries => uptoBulkEntries entries + 1
  | .held _ => 1
def uptoBulkAll {H : Type} : List (DataW H) → Nat
  | [] => 0
  | d :: r => uptoBulk d + uptoBulkAll r
def uptoBulkEntries {H : Type} : List (Lit × DataW H) → Nat
  | [] => 0
  | x :: r => uptoBulkEntry x + uptoBulkEntries r
def uptoBulkEntry {H : Type} : Lit × DataW H → Nat
  | (.string bytes, d) => bytes.length + uptoBulk d + 1
  | (_, d) => uptoBulk d + 1
 end
def uptoSmall : (H : Type) → List (DataW H) → Bool := fun _ ds => decide (uptoBulkAll ds ≤ 1048576)
def OpenSpec.upto (s : _root_.Go.ChangeSpec) : _root_.Go.OpenSpec := { _root_.Go.OpenSpec.ofChange s with cond := some uptoSmall }

/-- 'laws.FnExactSeal', WHERE WHAT IT READS IS OF BULK AT MOST 1048576: true; the input reads as it did. -/
def fnExactSealUptoRow : OpenClaim := { program := "ytmmgjioemnhoaaa", sum := "a96b76c8b0122b856e2c96e5ee8c85265aded5117d592125628217f478b7d2e8", func := "loop.example/g00038/laws.FnExactSeal", spec := "fnExactSeal", inPlace := ["internal/abi.NoEscape", "internal/bytealg.MakeNoZero"], unfollowed := true, recurses := true, apart := false, narrowed := true }
def FnExactSealUptoSaid : Prop := fnExactSealUptoRow.holds Try.pinned (OpenSpec.upto fnExactSealSpec)

/-- 'laws.FnExactUnseal', WHERE WHAT IT READS IS OF BULK AT MOST 1048576: true; the input reads as it did. -/
def fnExactUnsealUptoRow : OpenClaim := { program := "ytmmgjioemnhoaaa", sum := "a96b76c8b0122b856e2c96e5ee8c85265aded5117d592125628217f478b7d2e8", func := "loop.example/g00038/laws.FnExactUnseal", spec := "fnExactUnseal", inPlace := ["internal/abi.NoEscape", "internal/bytealg.MakeNoZero"], unfollowed := true, recurses := true, apart := false, narrowed := true }
def FnExactUnsealUptoSaid : Prop := fnExactUnsealUptoRow.holds Try.pinned (OpenSpec.upto fnExactUnsealSpec)

/-- 'laws.FnQuotes', WHERE WHAT IT READS IS OF BULK AT MOST 1048576: true; the input reads as it did. -/
def fnQuotesUptoRow : OpenClaim := { program := "ytmmgjioemnhoaaa", sum := "a96b76c8b0122b856e2c96e5ee8c85265aded5117d592125628217f478b7d2e8", func := "loop.example/g00038/laws.FnQuotes", spec := "fnQuotes", inPlace := ["internal/abi.NoEscape", "internal/bytealg.MakeNoZero"], unfollowed := true, recurses := true, apart := false, narrowed := true }
def FnQuotesUptoSaid : Prop := fnQuotesUptoRow.holds Try.pinned (OpenSpec.upto fnQuotesSpec)

/-- 'laws.FnExactMakeVolume', WHERE WHAT IT READS IS OF BULK AT MOST 1048576: true; the input reads as it did. -/
def fnExactMakeVolumeUptoRow : OpenClaim := { program := "ytmmgjioemnhoaaa", sum := "a96b76c8b0122b856e2c96e5ee8c85265aded5117d592125628217f478b7d2e8", func := "loop.example/g00038/laws.FnExactMakeVolume", spec := "fnExactMakeVolume", inPlace := ["internal/abi.NoEscape", "internal/bytealg.MakeNoZero"], unfollowed := true, recurses := true, apart := false, narrowed := true }
def FnExactMakeVolumeUptoSaid : Prop := fnExactMakeVolumeUptoRow.holds Try.pinned (OpenSpec.upto fnExactMakeVolumeSpec)

/-- 'laws.FnExactOpenVolume', WHERE WHAT IT READS IS OF BULK AT MOST 1048576: true; the input reads as it did. -/
def fnExactOpenVolumeUptoRow : OpenClaim := { program := "ytmmgjioemnhoaaa", sum := "a96b76c8b0122b856e2c96e5ee8c85265aded5117d592125628217f478b7d2e8", func := "loop.example/g00038/laws.FnExactOpenVolume", spec := "fnExactOpenVolume", inPlace := ["internal/abi.NoEscape", "internal/bytealg.MakeNoZero"], unfollowed := true, recurses := true, apart := false, narrowed := true }
def FnExactOpenVolumeUptoSaid : Prop := fnExactOpenVolumeUptoRow.holds Try.pinned (OpenSpec.upto fnExactOpenVolumeSpec)

/-- 'laws.FnCrypted', WHERE WHAT IT READS IS OF BULK AT MOST 1048576: true; the input reads as it did. -/
def fnCryptedUptoRow : OpenClaim := { program := "ytmmgjioemnhoaaa", sum := "a96b76c8b0122b856e2c96e5ee8c85265aded5117d592125628217f478b7d2e8", func := "loop.example/g00038/laws.FnCrypted", spec := "fnCrypted", inPlace := ["internal/abi.NoEscape", "internal/bytealg.MakeNoZero"], unfollowed := true, recurses := true, apart := false, narrowed := true }
def FnCryptedUptoSaid : Prop := fnCryptedUptoRow.holds Try.pinned (OpenSpec.upto fnCryptedSpec)

/-- 'laws.FnSealed', WHERE WHAT IT READS IS OF BULK AT MOST 1048576: true; the input reads as it did. -/
def fnSealedUptoRow : OpenClaim := { program := "ytmmgjioemnhoaaa", sum := "a96b76c8b0122b856e2c96e5ee8c85265aded5117d592125628217f478b7d2e8", func := "loop.example/g00038/laws.FnSealed", spec := "fnSealed", inPlace := ["internal/abi.NoEscape", "internal/bytealg.MakeNoZero"], unfollowed := true, recurses := true, apart := false, narrowed := true }
def FnSealedUptoSaid : Prop := fnSealedUptoRow.holds Try.pinned (OpenSpec.upto fnSealedSpec)

/-- 'laws.FnVolumes', WHERE WHAT IT READS IS OF BULK AT MOST 1048576: true; the input reads as it did. -/
def fnVolumesUptoRow : OpenClaim := { program := "ytmmgjioemnhoaaa", sum := "a96b76c8b0122b856e2c96e5ee8c85265aded5117d592125628217f478b7d2e8", func := "loop.example/g00038/laws.FnVolumes", spec := "fnVolumes", inPlace := ["internal/abi.NoEscape", "internal/bytealg.MakeNoZero"], unfollowed := true, recurses := true, apart := false, narrowed := true }
def FnVolumesUptoSaid : Prop := fnVolumesUptoRow.holds Try.pinned (OpenSpec.upto fnVolumesSpec)

/-- 'laws.FnExactAddPass', WHERE WHAT IT READS IS OF BULK AT MOST 1048576: true; the input reads as it did. -/
def fnExactAddPassUptoRow : OpenClaim := { program := "ytmmgjioemnhoaaa", sum := "a96b76c8b0122b856e2c96e5ee8c85265aded5117d592125628217f478b7d2e8", func := "loop.example/g00038/laws.FnExactAddPass", spec := "fnExactAddPass", inPlace := ["internal/abi.NoEscape", "internal/bytealg.MakeNoZero"], unfollowed := true, recurses := true, apart := false, narrowed := true }
def FnExactAddPassUptoSaid : Prop := fnExactAddPassUptoRow.holds Try.pinned (OpenSpec.upto fnExactAddPassSpec)

end Rows
end Go.Proofs.Ytmmgjioemnhoaaa
