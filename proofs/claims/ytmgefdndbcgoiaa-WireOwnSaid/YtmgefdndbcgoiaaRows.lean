/-
  No cell of these rows narrows 'for every input' (looked for: loops, veiled, ifaces, maps, wideKeys, modest, calm, conditions, laid).
  DERIVED. THE GIVEN ROWS OF THIS SEAT. 12 by the template 'for every input the law returns true; each argument reads behind the call as it read before'; 0 by the template 'total and deterministic' (their statements: YtmgefdndbcgoiaaTotals.lean).
  GIVEN WITH THE SEED: the statements are not yours to turn. If you find one false, say at which input.
  Laid BY PROGRAM, IN A SANDBOX (cutbox-rows.mjs): the forced cells as the released guide's own fill.sh prints them over the translation 38e8e7e246ffabd4… (all of the seat's roots in one cut). By AI agents, Wed Nov 11 2026. No macro, syntax, notation, axiom, sorry.
-/
import Derived.Test.YtmgefdndbcgoiaaChecked
import GoSem.Claim
import GoSem.ClaimJoined
import GoSem.ClaimMapViews
import Derived.JoinedTies
import Derived.KernelRfl
namespace Go.Proofs.Ytmgefdndbcgoiaa
/- THE CELL 'sum', in the pinned program and in every row, IS THE sha256 OF THE DUMP (.gsa) THAT YtmgefdndbcgoiaaProg.lean LOADS. Nothing in Lean hashes anything: it is a label: what it is worth is what the hold of that sum in a sandbox is worth. -/
noncomputable def Try.pinned : Pinned := { name := "ytmgefdndbcgoiaa", sum := "38e8e7e246ffabd4ab78ab37b9467ddb7aeff133cfe8aa5597c292348812e89b", checked := Try.checked }
namespace Rows
def none {H : Type} : Left H := { results := [], args := [] }

/-- 'sentinellaw5.WireBack': WHATEVER THE INPUT: true; the input reads as it did. -/
def wireBackSpec : ChangeSpec := { name := "wireBack", fn := fun _ => fun
  | [d1, d2, d3, d4] => { results := [.lit (.bool true)], args := [d1, d2, d3, d4] }
  | _ => none }
def wireBackRow : OpenClaim := { program := "ytmgefdndbcgoiaa", sum := "38e8e7e246ffabd4ab78ab37b9467ddb7aeff133cfe8aa5597c292348812e89b", func := "sentinel/sentinellaw5.WireBack", spec := "wireBack", unfollowed := true, recurses := true, apart := false }
def WireBackSaid : Prop := wireBackRow.holds Try.pinned (OpenSpec.ofChange wireBackSpec)

/-- ITS FALSE NEIGHBOUR: 'it returns false'. Refute it at one input. -/
def wireBackWrong : ChangeSpec := { name := "wireBack", fn := fun _ => fun
  | [d1, d2, d3, d4] => { results := [.lit (.bool false)], args := [d1, d2, d3, d4] }
  | _ => none }
def WireBackWrongFalsely : Prop := wireBackRow.holds Try.pinned (OpenSpec.ofChange wireBackWrong)

/-- 'sentinellaw5.WireReads': WHATEVER THE INPUT: true; the input reads as it did. -/
def wireReadsSpec : ChangeSpec := { name := "wireReads", fn := fun _ => fun
  | [d1, d2, d3, d4, d5, d6, d7, d8, d9] => { results := [.lit (.bool true)], args := [d1, d2, d3, d4, d5, d6, d7, d8, d9] }
  | _ => none }
def wireReadsRow : OpenClaim := { program := "ytmgefdndbcgoiaa", sum := "38e8e7e246ffabd4ab78ab37b9467ddb7aeff133cfe8aa5597c292348812e89b", func := "sentinel/sentinellaw5.WireReads", spec := "wireReads", unfollowed := true, recurses := true, apart := false }
def WireReadsSaid : Prop := wireReadsRow.holds Try.pinned (OpenSpec.ofChange wireReadsSpec)

/-- ITS FALSE NEIGHBOUR: 'it returns false'. Refute it at one input. -/
def wireReadsWrong : ChangeSpec := { name := "wireReads", fn := fun _ => fun
  | [d1, d2, d3, d4, d5, d6, d7, d8, d9] => { results := [.lit (.bool false)], args := [d1, d2, d3, d4, d5, d6, d7, d8, d9] }
  | _ => none }
def WireReadsWrongFalsely : Prop := wireReadsRow.holds Try.pinned (OpenSpec.ofChange wireReadsWrong)

/-- 'sentinellaw5.WireRight': WHATEVER THE INPUT: true; the input reads as it did. -/
def wireRightSpec : ChangeSpec := { name := "wireRight", fn := fun _ => fun
  | [d1, d2, d3, d4, d5, d6, d7] => { results := [.lit (.bool true)], args := [d1, d2, d3, d4, d5, d6, d7] }
  | _ => none }
def wireRightRow : OpenClaim := { program := "ytmgefdndbcgoiaa", sum := "38e8e7e246ffabd4ab78ab37b9467ddb7aeff133cfe8aa5597c292348812e89b", func := "sentinel/sentinellaw5.WireRight", spec := "wireRight", unfollowed := true, recurses := true, apart := false }
def WireRightSaid : Prop := wireRightRow.holds Try.pinned (OpenSpec.ofChange wireRightSpec)

/-- ITS FALSE NEIGHBOUR: 'it returns false'. Refute it at one input. -/
def wireRightWrong : ChangeSpec := { name := "wireRight", fn := fun _ => fun
  | [d1, d2, d3, d4, d5, d6, d7] => { results := [.lit (.bool false)], args := [d1, d2, d3, d4, d5, d6, d7] }
  | _ => none }
def WireRightWrongFalsely : Prop := wireRightRow.holds Try.pinned (OpenSpec.ofChange wireRightWrong)

/-- 'sentinellaw5.WireStreams': WHATEVER THE INPUT: true; the input reads as it did. -/
def wireStreamsSpec : ChangeSpec := { name := "wireStreams", fn := fun _ => fun
  | [d1, d2, d3, d4, d5, d6, d7] => { results := [.lit (.bool true)], args := [d1, d2, d3, d4, d5, d6, d7] }
  | _ => none }
def wireStreamsRow : OpenClaim := { program := "ytmgefdndbcgoiaa", sum := "38e8e7e246ffabd4ab78ab37b9467ddb7aeff133cfe8aa5597c292348812e89b", func := "sentinel/sentinellaw5.WireStreams", spec := "wireStreams", unfollowed := true, recurses := true, apart := false }
def WireStreamsSaid : Prop := wireStreamsRow.holds Try.pinned (OpenSpec.ofChange wireStreamsSpec)

/-- ITS FALSE NEIGHBOUR: 'it returns false'. Refute it at one input. -/
def wireStreamsWrong : ChangeSpec := { name := "wireStreams", fn := fun _ => fun
  | [d1, d2, d3, d4, d5, d6, d7] => { results := [.lit (.bool false)], args := [d1, d2, d3, d4, d5, d6, d7] }
  | _ => none }
def WireStreamsWrongFalsely : Prop := wireStreamsRow.holds Try.pinned (OpenSpec.ofChange wireStreamsWrong)

/-- 'sentinellaw5.WireRecords': WHATEVER THE INPUT: true; the input reads as it did. -/
def wireRecordsSpec : ChangeSpec := { name := "wireRecords", fn := fun _ => fun
  | [d1, d2, d3, d4, d5, d6, d7] => { results := [.lit (.bool true)], args := [d1, d2, d3, d4, d5, d6, d7] }
  | _ => none }
def wireRecordsRow : OpenClaim := { program := "ytmgefdndbcgoiaa", sum := "38e8e7e246ffabd4ab78ab37b9467ddb7aeff133cfe8aa5597c292348812e89b", func := "sentinel/sentinellaw5.WireRecords", spec := "wireRecords", unfollowed := true, recurses := true, apart := false }
def WireRecordsSaid : Prop := wireRecordsRow.holds Try.pinned (OpenSpec.ofChange wireRecordsSpec)

/-- ITS FALSE NEIGHBOUR: 'it returns false'. Refute it at one input. -/
def wireRecordsWrong : ChangeSpec := { name := "wireRecords", fn := fun _ => fun
  | [d1, d2, d3, d4, d5, d6, d7] => { results := [.lit (.bool false)], args := [d1, d2, d3, d4, d5, d6, d7] }
  | _ => none }
def WireRecordsWrongFalsely : Prop := wireRecordsRow.holds Try.pinned (OpenSpec.ofChange wireRecordsWrong)

/-- 'sentinellaw5.WireRecordRight': WHATEVER THE INPUT: true; the input reads as it did. -/
def wireRecordRightSpec : ChangeSpec := { name := "wireRecordRight", fn := fun _ => fun
  | [d1, d2, d3, d4, d5, d6] => { results := [.lit (.bool true)], args := [d1, d2, d3, d4, d5, d6] }
  | _ => none }
def wireRecordRightRow : OpenClaim := { program := "ytmgefdndbcgoiaa", sum := "38e8e7e246ffabd4ab78ab37b9467ddb7aeff133cfe8aa5597c292348812e89b", func := "sentinel/sentinellaw5.WireRecordRight", spec := "wireRecordRight", unfollowed := true, recurses := true, apart := false }
def WireRecordRightSaid : Prop := wireRecordRightRow.holds Try.pinned (OpenSpec.ofChange wireRecordRightSpec)

/-- ITS FALSE NEIGHBOUR: 'it returns false'. Refute it at one input. -/
def wireRecordRightWrong : ChangeSpec := { name := "wireRecordRight", fn := fun _ => fun
  | [d1, d2, d3, d4, d5, d6] => { results := [.lit (.bool false)], args := [d1, d2, d3, d4, d5, d6] }
  | _ => none }
def WireRecordRightWrongFalsely : Prop := wireRecordRightRow.holds Try.pinned (OpenSpec.ofChange wireRecordRightWrong)

/-- 'sentinellaw5.WireSizes': WHATEVER THE INPUT: true; the input reads as it did. -/
def wireSizesSpec : ChangeSpec := { name := "wireSizes", fn := fun _ => fun
  | [d1, d2, d3, d4] => { results := [.lit (.bool true)], args := [d1, d2, d3, d4] }
  | _ => none }
def wireSizesRow : OpenClaim := { program := "ytmgefdndbcgoiaa", sum := "38e8e7e246ffabd4ab78ab37b9467ddb7aeff133cfe8aa5597c292348812e89b", func := "sentinel/sentinellaw5.WireSizes", spec := "wireSizes", unfollowed := true, recurses := true, apart := false }
def WireSizesSaid : Prop := wireSizesRow.holds Try.pinned (OpenSpec.ofChange wireSizesSpec)

/-- ITS FALSE NEIGHBOUR: 'it returns false'. Refute it at one input. -/
def wireSizesWrong : ChangeSpec := { name := "wireSizes", fn := fun _ => fun
  | [d1, d2, d3, d4] => { results := [.lit (.bool false)], args := [d1, d2, d3, d4] }
  | _ => none }
def WireSizesWrongFalsely : Prop := wireSizesRow.holds Try.pinned (OpenSpec.ofChange wireSizesWrong)

/-- 'sentinellaw5.WireRows': WHATEVER THE INPUT: true; the input reads as it did. -/
def wireRowsSpec : ChangeSpec := { name := "wireRows", fn := fun _ => fun
  | [d1, d2, d3, d4] => { results := [.lit (.bool true)], args := [d1, d2, d3, d4] }
  | _ => none }
def wireRowsRow : OpenClaim := { program := "ytmgefdndbcgoiaa", sum := "38e8e7e246ffabd4ab78ab37b9467ddb7aeff133cfe8aa5597c292348812e89b", func := "sentinel/sentinellaw5.WireRows", spec := "wireRows", unfollowed := true, recurses := true, apart := false }
def WireRowsSaid : Prop := wireRowsRow.holds Try.pinned (OpenSpec.ofChange wireRowsSpec)

/-- ITS FALSE NEIGHBOUR: 'it returns false'. Refute it at one input. -/
def wireRowsWrong : ChangeSpec := { name := "wireRows", fn := fun _ => fun
  | [d1, d2, d3, d4] => { results := [.lit (.bool false)], args := [d1, d2, d3, d4] }
  | _ => none }
def WireRowsWrongFalsely : Prop := wireRowsRow.holds Try.pinned (OpenSpec.ofChange wireRowsWrong)

/-- 'sentinellaw5.WireBad': WHATEVER THE INPUT: true; the input reads as it did. -/
def wireBadSpec : ChangeSpec := { name := "wireBad", fn := fun _ => fun
  | [d1, d2, d3, d4, d5, d6] => { results := [.lit (.bool true)], args := [d1, d2, d3, d4, d5, d6] }
  | _ => none }
def wireBadRow : OpenClaim := { program := "ytmgefdndbcgoiaa", sum := "38e8e7e246ffabd4ab78ab37b9467ddb7aeff133cfe8aa5597c292348812e89b", func := "sentinel/sentinellaw5.WireBad", spec := "wireBad", unfollowed := true, recurses := true, apart := false }
def WireBadSaid : Prop := wireBadRow.holds Try.pinned (OpenSpec.ofChange wireBadSpec)

/-- ITS FALSE NEIGHBOUR: 'it returns false'. Refute it at one input. -/
def wireBadWrong : ChangeSpec := { name := "wireBad", fn := fun _ => fun
  | [d1, d2, d3, d4, d5, d6] => { results := [.lit (.bool false)], args := [d1, d2, d3, d4, d5, d6] }
  | _ => none }
def WireBadWrongFalsely : Prop := wireBadRow.holds Try.pinned (OpenSpec.ofChange wireBadWrong)

/-- 'sentinellaw5.WireLong': WHATEVER THE INPUT: true; the input reads as it did. -/
def wireLongSpec : ChangeSpec := { name := "wireLong", fn := fun _ => fun
  | [d1, d2] => { results := [.lit (.bool true)], args := [d1, d2] }
  | _ => none }
def wireLongRow : OpenClaim := { program := "ytmgefdndbcgoiaa", sum := "38e8e7e246ffabd4ab78ab37b9467ddb7aeff133cfe8aa5597c292348812e89b", func := "sentinel/sentinellaw5.WireLong", spec := "wireLong", unfollowed := true, recurses := true, apart := false }
def WireLongSaid : Prop := wireLongRow.holds Try.pinned (OpenSpec.ofChange wireLongSpec)

/-- ITS FALSE NEIGHBOUR: 'it returns false'. Refute it at one input. -/
def wireLongWrong : ChangeSpec := { name := "wireLong", fn := fun _ => fun
  | [d1, d2] => { results := [.lit (.bool false)], args := [d1, d2] }
  | _ => none }
def WireLongWrongFalsely : Prop := wireLongRow.holds Try.pinned (OpenSpec.ofChange wireLongWrong)

/-- 'sentinellaw5.WireApart': WHATEVER THE INPUT: true; the input reads as it did. -/
def wireApartSpec : ChangeSpec := { name := "wireApart", fn := fun _ => fun
  | [d1, d2, d3, d4, d5, d6, d7] => { results := [.lit (.bool true)], args := [d1, d2, d3, d4, d5, d6, d7] }
  | _ => none }
def wireApartRow : OpenClaim := { program := "ytmgefdndbcgoiaa", sum := "38e8e7e246ffabd4ab78ab37b9467ddb7aeff133cfe8aa5597c292348812e89b", func := "sentinel/sentinellaw5.WireApart", spec := "wireApart", unfollowed := true, recurses := true, apart := false }
def WireApartSaid : Prop := wireApartRow.holds Try.pinned (OpenSpec.ofChange wireApartSpec)

/-- ITS FALSE NEIGHBOUR: 'it returns false'. Refute it at one input. -/
def wireApartWrong : ChangeSpec := { name := "wireApart", fn := fun _ => fun
  | [d1, d2, d3, d4, d5, d6, d7] => { results := [.lit (.bool false)], args := [d1, d2, d3, d4, d5, d6, d7] }
  | _ => none }
def WireApartWrongFalsely : Prop := wireApartRow.holds Try.pinned (OpenSpec.ofChange wireApartWrong)

/-- 'sentinellaw5.WireOwn': WHATEVER THE INPUT: true; the input reads as it did. -/
def wireOwnSpec : ChangeSpec := { name := "wireOwn", fn := fun _ => fun
  | [d1, d2, d3, d4] => { results := [.lit (.bool true)], args := [d1, d2, d3, d4] }
  | _ => none }
def wireOwnRow : OpenClaim := { program := "ytmgefdndbcgoiaa", sum := "38e8e7e246ffabd4ab78ab37b9467ddb7aeff133cfe8aa5597c292348812e89b", func := "sentinel/sentinellaw5.WireOwn", spec := "wireOwn", unfollowed := true, recurses := true, apart := false }
def WireOwnSaid : Prop := wireOwnRow.holds Try.pinned (OpenSpec.ofChange wireOwnSpec)

/-- ITS FALSE NEIGHBOUR: 'it returns false'. Refute it at one input. -/
def wireOwnWrong : ChangeSpec := { name := "wireOwn", fn := fun _ => fun
  | [d1, d2, d3, d4] => { results := [.lit (.bool false)], args := [d1, d2, d3, d4] }
  | _ => none }
def WireOwnWrongFalsely : Prop := wireOwnRow.holds Try.pinned (OpenSpec.ofChange wireOwnWrong)

/- THE SECOND FORM. 'bulk': how many values and letters a reading holds, each counted each time it is reached (what is shared counts as often as it is met; a slice's spare places count too). A statement '..UptoSaid' is the law's where the arguments, and the package variables that the reading takes, are together of bulk at most 1048576: NARROWER than '..Said'. Prove '..Said' where nothing that the law and all that it calls make is longer than what came in: it says more and counts as full. Else prove '..UptoSaid'. A law counts once. -/
mutual
def uptoBulk {H : Type} : DataW H → Nat
  | .lit (.string bytes) => bytes.length + 1
  | .lit _ => 1
  | .nil => 1
  | .ptr d => uptoBulk d + 1
  | .slice elems spare => uptoBulkAll elems + uptoBulkAll spare + 1
  | .agg parts => uptoBulkAll parts + 1
  | .iface _ d => uptoBulk d + 1
  | .map entries => uptoBulkEntries entries + 1
  | .held _ => 1
def uptoBulkAll {H : Type} : List (DataW H) → Nat
  | [] => 0
  | d :: r => uptoBulk d + uptoBulkAll r
def uptoBulkEntries {H : Type} : List (Lit × DataW H) → Nat
  | [] => 0
  | x :: r => uptoBulkEntry x + uptoBulkEntries r
def uptoBulkEntry {H : Type} : Lit × DataW H → Nat
  | (.string bytes, d) => bytes.length + uptoBulk d + 1
  | (_, d) => uptoBulk d + 1
 end
def uptoSmall : (H : Type) → List (DataW H) → Bool := fun _ ds => decide (uptoBulkAll ds ≤ 1048576)
def OpenSpec.upto (s : _root_.Go.ChangeSpec) : _root_.Go.OpenSpec := { _root_.Go.OpenSpec.ofChange s with cond := some uptoSmall }

/-- 'sentinellaw5.WireBack', WHERE WHAT IT READS IS OF BULK AT MOST 1048576: true; the input reads as it did. -/
def wireBackUptoRow : OpenClaim := { program := "ytmgefdndbcgoiaa", sum := "38e8e7e246ffabd4ab78ab37b9467ddb7aeff133cfe8aa5597c292348812e89b", func := "sentinel/sentinellaw5.WireBack", spec := "wireBack", unfollowed := true, recurses := true, apart := false, narrowed := true }
def WireBackUptoSaid : Prop := wireBackUptoRow.holds Try.pinned (OpenSpec.upto wireBackSpec)

/-- 'sentinellaw5.WireReads', WHERE WHAT IT READS IS OF BULK AT MOST 1048576: true; the input reads as it did. -/
def wireReadsUptoRow : OpenClaim := { program := "ytmgefdndbcgoiaa", sum := "38e8e7e246ffabd4ab78ab37b9467ddb7aeff133cfe8aa5597c292348812e89b", func := "sentinel/sentinellaw5.WireReads", spec := "wireReads", unfollowed := true, recurses := true, apart := false, narrowed := true }
def WireReadsUptoSaid : Prop := wireReadsUptoRow.holds Try.pinned (OpenSpec.upto wireReadsSpec)

/-- 'sentinellaw5.WireRight', WHERE WHAT IT READS IS OF BULK AT MOST 1048576: true; the input reads as it did. -/
def wireRightUptoRow : OpenClaim := { program := "ytmgefdndbcgoiaa", sum := "38e8e7e246ffabd4ab78ab37b9467ddb7aeff133cfe8aa5597c292348812e89b", func := "sentinel/sentinellaw5.WireRight", spec := "wireRight", unfollowed := true, recurses := true, apart := false, narrowed := true }
def WireRightUptoSaid : Prop := wireRightUptoRow.holds Try.pinned (OpenSpec.upto wireRightSpec)

/-- 'sentinellaw5.WireStreams', WHERE WHAT IT READS IS OF BULK AT MOST 1048576: true; the input reads as it did. -/
def wireStreamsUptoRow : OpenClaim := { program := "ytmgefdndbcgoiaa", sum := "38e8e7e246ffabd4ab78ab37b9467ddb7aeff133cfe8aa5597c292348812e89b", func := "sentinel/sentinellaw5.WireStreams", spec := "wireStreams", unfollowed := true, recurses := true, apart := false, narrowed := true }
def WireStreamsUptoSaid : Prop := wireStreamsUptoRow.holds Try.pinned (OpenSpec.upto wireStreamsSpec)

/-- 'sentinellaw5.WireRecords', WHERE WHAT IT READS IS OF BULK AT MOST 1048576: true; the input reads as it did. -/
def wireRecordsUptoRow : OpenClaim := { program := "ytmgefdndbcgoiaa", sum := "38e8e7e246ffabd4ab78ab37b9467ddb7aeff133cfe8aa5597c292348812e89b", func := "sentinel/sentinellaw5.WireRecords", spec := "wireRecords", unfollowed := true, recurses := true, apart := false, narrowed := true }
def WireRecordsUptoSaid : Prop := wireRecordsUptoRow.holds Try.pinned (OpenSpec.upto wireRecordsSpec)

/-- 'sentinellaw5.WireRecordRight', WHERE WHAT IT READS IS OF BULK AT MOST 1048576: true; the input reads as it did. -/
def wireRecordRightUptoRow : OpenClaim := { program := "ytmgefdndbcgoiaa", sum := "38e8e7e246ffabd4ab78ab37b9467ddb7aeff133cfe8aa5597c292348812e89b", func := "sentinel/sentinellaw5.WireRecordRight", spec := "wireRecordRight", unfollowed := true, recurses := true, apart := false, narrowed := true }
def WireRecordRightUptoSaid : Prop := wireRecordRightUptoRow.holds Try.pinned (OpenSpec.upto wireRecordRightSpec)

/-- 'sentinellaw5.WireSizes', WHERE WHAT IT READS IS OF BULK AT MOST 1048576: true; the input reads as it did. -/
def wireSizesUptoRow : OpenClaim := { program := "ytmgefdndbcgoiaa", sum := "38e8e7e246ffabd4ab78ab37b9467ddb7aeff133cfe8aa5597c292348812e89b", func := "sentinel/sentinellaw5.WireSizes", spec := "wireSizes", unfollowed := true, recurses := true, apart := false, narrowed := true }
def WireSizesUptoSaid : Prop := wireSizesUptoRow.holds Try.pinned (OpenSpec.upto wireSizesSpec)

/-- 'sentinellaw5.WireRows', WHERE WHAT IT READS IS OF BULK AT MOST 1048576: true; the input reads as it did. -/
def wireRowsUptoRow : OpenClaim := { program := "ytmgefdndbcgoiaa", sum := "38e8e7e246ffabd4ab78ab37b9467ddb7aeff133cfe8aa5597c292348812e89b", func := "sentinel/sentinellaw5.WireRows", spec := "wireRows", unfollowed := true, recurses := true, apart := false, narrowed := true }
def WireRowsUptoSaid : Prop := wireRowsUptoRow.holds Try.pinned (OpenSpec.upto wireRowsSpec)

/-- 'sentinellaw5.WireBad', WHERE WHAT IT READS IS OF BULK AT MOST 1048576: true; the input reads as it did. -/
def wireBadUptoRow : OpenClaim := { program := "ytmgefdndbcgoiaa", sum := "38e8e7e246ffabd4ab78ab37b9467ddb7aeff133cfe8aa5597c292348812e89b", func := "sentinel/sentinellaw5.WireBad", spec := "wireBad", unfollowed := true, recurses := true, apart := false, narrowed := true }
def WireBadUptoSaid : Prop := wireBadUptoRow.holds Try.pinned (OpenSpec.upto wireBadSpec)

/-- 'sentinellaw5.WireLong', WHERE WHAT IT READS IS OF BULK AT MOST 1048576: true; the input reads as it did. -/
def wireLongUptoRow : OpenClaim := { program := "ytmgefdndbcgoiaa", sum := "38e8e7e246ffabd4ab78ab37b9467ddb7aeff133cfe8aa5597c292348812e89b", func := "sentinel/sentinellaw5.WireLong", spec := "wireLong", unfollowed := true, recurses := true, apart := false, narrowed := true }
def WireLongUptoSaid : Prop := wireLongUptoRow.holds Try.pinned (OpenSpec.upto wireLongSpec)

/-- 'sentinellaw5.WireApart', WHERE WHAT IT READS IS OF BULK AT MOST 1048576: true; the input reads as it did. -/
def wireApartUptoRow : OpenClaim := { program := "ytmgefdndbcgoiaa", sum := "38e8e7e246ffabd4ab78ab37b9467ddb7aeff133cfe8aa5597c292348812e89b", func := "sentinel/sentinellaw5.WireApart", spec := "wireApart", unfollowed := true, recurses := true, apart := false, narrowed := true }
def WireApartUptoSaid : Prop := wireApartUptoRow.holds Try.pinned (OpenSpec.upto wireApartSpec)

/-- 'sentinellaw5.WireOwn', WHERE WHAT IT READS IS OF BULK AT MOST 1048576: true; the input reads as it did. -/
def wireOwnUptoRow : OpenClaim := { program := "ytmgefdndbcgoiaa", sum := "38e8e7e246ffabd4ab78ab37b9467ddb7aeff133cfe8aa5597c292348812e89b", func := "sentinel/sentinellaw5.WireOwn", spec := "wireOwn", unfollowed := true, recurses := true, apart := false, narrowed := true }
def WireOwnUptoSaid : Prop := wireOwnUptoRow.holds Try.pinned (OpenSpec.upto wireOwnSpec)

end Rows
end Go.Proofs.Ytmgefdndbcgoiaa
