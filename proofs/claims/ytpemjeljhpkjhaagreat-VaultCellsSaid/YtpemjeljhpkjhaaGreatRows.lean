/-
  No cell of these rows narrows 'for every input' (looked for: loops, veiled, ifaces, maps, wideKeys, modest, calm, conditions, laid).
  DERIVED. THE GIVEN ROWS OF THIS SEAT. 5 by the template 'for every input the law returns true; each argument reads behind the call as it read before'; 0 by the template 'total and deterministic' (their statements: YtpemjeljhpkjhaaGreatTotals.lean).
  GIVEN WITH THE SEED: the statements are not yours to turn. If you find one false, say at which input.
  Laid BY PROGRAM, IN A SANDBOX (cutbox-rows.mjs): the forced cells as the released guide's own fill.sh prints them over the translation e6daff0d2690e6d4… (all of the seat's roots in one cut). By AI agents, Wed Nov 11 2026. No macro, syntax, notation, axiom, sorry.
-/
import Derived.Test.YtpemjeljhpkjhaaGreatChecked
import GoSem.Claim
import GoSem.ClaimJoined
import GoSem.ClaimMapViews
import Derived.JoinedTies
import Derived.KernelRfl
namespace Go.Proofs.YtpemjeljhpkjhaaGreat
/- THE CELL 'sum', in the pinned program and in every row, IS THE sha256 OF THE DUMP (.gsa) THAT YtpemjeljhpkjhaaGreatProg.lean LOADS. Nothing in Lean hashes anything: it is a label: what it is worth is what the hold of that sum in a sandbox is worth. -/
noncomputable def Tryz.pinned : Pinned := { name := "ytpemjeljhpkjhaagreat", sum := "e6daff0d2690e6d477b902b3048a6f5d0d83a2e4ed4c3b0ffd320160b93742a5", checked := Tryz.checked }
namespace Rows
def none {H : Type} : Left H := { results := [], args := [] }

/-- 'sentinellaw6.VaultPlays': WHATEVER THE INPUT: true; the input reads as it did. -/
def vaultPlaysSpec : ChangeSpec := { name := "vaultPlays", fn := fun _ => fun
  | [d1, d2, d3, d4] => { results := [.lit (.bool true)], args := [d1, d2, d3, d4] }
  | _ => none }
def vaultPlaysRow : OpenClaim := { program := "ytpemjeljhpkjhaagreat", sum := "e6daff0d2690e6d477b902b3048a6f5d0d83a2e4ed4c3b0ffd320160b93742a5", func := "sentinel/sentinellaw6.VaultPlays", spec := "vaultPlays", unfollowed := true, recurses := true, apart := false }
def VaultPlaysSaid : Prop := vaultPlaysRow.holds Tryz.pinned (OpenSpec.ofChange vaultPlaysSpec)

/-- ITS FALSE NEIGHBOUR: 'it returns false'. Refute it at one input. -/
def vaultPlaysWrong : ChangeSpec := { name := "vaultPlays", fn := fun _ => fun
  | [d1, d2, d3, d4] => { results := [.lit (.bool false)], args := [d1, d2, d3, d4] }
  | _ => none }
def VaultPlaysWrongFalsely : Prop := vaultPlaysRow.holds Tryz.pinned (OpenSpec.ofChange vaultPlaysWrong)

/-- 'sentinellaw6.VaultWhole': WHATEVER THE INPUT: true; the input reads as it did. -/
def vaultWholeSpec : ChangeSpec := { name := "vaultWhole", fn := fun _ => fun
  | [d1, d2, d3, d4, d5, d6] => { results := [.lit (.bool true)], args := [d1, d2, d3, d4, d5, d6] }
  | _ => none }
def vaultWholeRow : OpenClaim := { program := "ytpemjeljhpkjhaagreat", sum := "e6daff0d2690e6d477b902b3048a6f5d0d83a2e4ed4c3b0ffd320160b93742a5", func := "sentinel/sentinellaw6.VaultWhole", spec := "vaultWhole", unfollowed := true, recurses := true, apart := false }
def VaultWholeSaid : Prop := vaultWholeRow.holds Tryz.pinned (OpenSpec.ofChange vaultWholeSpec)

/-- ITS FALSE NEIGHBOUR: 'it returns false'. Refute it at one input. -/
def vaultWholeWrong : ChangeSpec := { name := "vaultWhole", fn := fun _ => fun
  | [d1, d2, d3, d4, d5, d6] => { results := [.lit (.bool false)], args := [d1, d2, d3, d4, d5, d6] }
  | _ => none }
def VaultWholeWrongFalsely : Prop := vaultWholeRow.holds Tryz.pinned (OpenSpec.ofChange vaultWholeWrong)

/-- 'sentinellaw6.VaultTwice': WHATEVER THE INPUT: true; the input reads as it did. -/
def vaultTwiceSpec : ChangeSpec := { name := "vaultTwice", fn := fun _ => fun
  | [d1, d2, d3, d4, d5, d6] => { results := [.lit (.bool true)], args := [d1, d2, d3, d4, d5, d6] }
  | _ => none }
def vaultTwiceRow : OpenClaim := { program := "ytpemjeljhpkjhaagreat", sum := "e6daff0d2690e6d477b902b3048a6f5d0d83a2e4ed4c3b0ffd320160b93742a5", func := "sentinel/sentinellaw6.VaultTwice", spec := "vaultTwice", unfollowed := true, recurses := true, apart := false }
def VaultTwiceSaid : Prop := vaultTwiceRow.holds Tryz.pinned (OpenSpec.ofChange vaultTwiceSpec)

/-- ITS FALSE NEIGHBOUR: 'it returns false'. Refute it at one input. -/
def vaultTwiceWrong : ChangeSpec := { name := "vaultTwice", fn := fun _ => fun
  | [d1, d2, d3, d4, d5, d6] => { results := [.lit (.bool false)], args := [d1, d2, d3, d4, d5, d6] }
  | _ => none }
def VaultTwiceWrongFalsely : Prop := vaultTwiceRow.holds Tryz.pinned (OpenSpec.ofChange vaultTwiceWrong)

/-- 'sentinellaw6.VaultCells': WHATEVER THE INPUT: true; the input reads as it did. -/
def vaultCellsSpec : ChangeSpec := { name := "vaultCells", fn := fun _ => fun
  | [d1, d2] => { results := [.lit (.bool true)], args := [d1, d2] }
  | _ => none }
def vaultCellsRow : OpenClaim := { program := "ytpemjeljhpkjhaagreat", sum := "e6daff0d2690e6d477b902b3048a6f5d0d83a2e4ed4c3b0ffd320160b93742a5", func := "sentinel/sentinellaw6.VaultCells", spec := "vaultCells", unfollowed := true, recurses := true, apart := false }
def VaultCellsSaid : Prop := vaultCellsRow.holds Tryz.pinned (OpenSpec.ofChange vaultCellsSpec)

/-- ITS FALSE NEIGHBOUR: 'it returns false'. Refute it at one input. -/
def vaultCellsWrong : ChangeSpec := { name := "vaultCells", fn := fun _ => fun
  | [d1, d2] => { results := [.lit (.bool false)], args := [d1, d2] }
  | _ => none }
def VaultCellsWrongFalsely : Prop := vaultCellsRow.holds Tryz.pinned (OpenSpec.ofChange vaultCellsWrong)

/-- 'sentinellaw6.VaultOwn': WHATEVER THE INPUT: true; the input reads as it did. -/
def vaultOwnSpec : ChangeSpec := { name := "vaultOwn", fn := fun _ => fun
  | [d1, d2, d3] => { results := [.lit (.bool true)], args := [d1, d2, d3] }
  | _ => none }
def vaultOwnRow : OpenClaim := { program := "ytpemjeljhpkjhaagreat", sum := "e6daff0d2690e6d477b902b3048a6f5d0d83a2e4ed4c3b0ffd320160b93742a5", func := "sentinel/sentinellaw6.VaultOwn", spec := "vaultOwn", unfollowed := true, recurses := true, apart := false }
def VaultOwnSaid : Prop := vaultOwnRow.holds Tryz.pinned (OpenSpec.ofChange vaultOwnSpec)

/-- ITS FALSE NEIGHBOUR: 'it returns false'. Refute it at one input. -/
def vaultOwnWrong : ChangeSpec := { name := "vaultOwn", fn := fun _ => fun
  | [d1, d2, d3] => { results := [.lit (.bool false)], args := [d1, d2, d3] }
  | _ => none }
def VaultOwnWrongFalsely : Prop := vaultOwnRow.holds Tryz.pinned (OpenSpec.ofChange vaultOwnWrong)

/- THE SECOND FORM. 'bulk': how many values and letters a reading holds, each counted each time it is reached (what is shared counts as often as it is met; a slice's spare places count too). A statement '..UptoSaid' is the law's where the arguments, and the package variables that the reading takes, are together of bulk at most 1048576: NARROWER than '..Said'. Prove '..Said' where nothing that the law and all that it calls make is longer than what came in: it says more and counts as full. Else prove '..UptoSaid'. A law counts once. -/
mutual
def uptoBulk {H : Type} : DataW H → Nat
  | .lit (.string bytes) => bytes.length + 1
  | .lit _ => 1
  | .nil => 1
  | .ptr d => uptoBulk d + 1
  | .slice elems spare => uptoBulkAll elems + uptoBulkAll spare + 1
  | .agg parts => uptoBulkAll parts + 1
  | .iface _ d => uptoBulk d + 1
  | .map entries => uptoBulkEntries entries + 1
  | .held _ => 1
def uptoBulkAll {H : Type} : List (DataW H) → Nat
  | [] => 0
  | d :: r => uptoBulk d + uptoBulkAll r
def uptoBulkEntries {H : Type} : List (Lit × DataW H) → Nat
  | [] => 0
  | x :: r => uptoBulkEntry x + uptoBulkEntries r
def uptoBulkEntry {H : Type} : Lit × DataW H → Nat
  | (.string bytes, d) => bytes.length + uptoBulk d + 1
  | (_, d) => uptoBulk d + 1
 end
def uptoSmall : (H : Type) → List (DataW H) → Bool := fun _ ds => decide (uptoBulkAll ds ≤ 1048576)
def OpenSpec.upto (s : _root_.Go.ChangeSpec) : _root_.Go.OpenSpec := { _root_.Go.OpenSpec.ofChange s with cond := some uptoSmall }

/-- 'sentinellaw6.VaultPlays', WHERE WHAT IT READS IS OF BULK AT MOST 1048576: true; the input reads as it did. -/
def vaultPlaysUptoRow : OpenClaim := { program := "ytpemjeljhpkjhaagreat", sum := "e6daff0d2690e6d477b902b3048a6f5d0d83a2e4ed4c3b0ffd320160b93742a5", func := "sentinel/sentinellaw6.VaultPlays", spec := "vaultPlays", unfollowed := true, recurses := true, apart := false, narrowed := true }
def VaultPlaysUptoSaid : Prop := vaultPlaysUptoRow.holds Tryz.pinned (OpenSpec.upto vaultPlaysSpec)

/-- 'sentinellaw6.VaultWhole', WHERE WHAT IT READS IS OF BULK AT MOST 1048576: true; the input reads as it did. -/
def vaultWholeUptoRow : OpenClaim := { program := "ytpemjeljhpkjhaagreat", sum := "e6daff0d2690e6d477b902b3048a6f5d0d83a2e4ed4c3b0ffd320160b93742a5", func := "sentinel/sentinellaw6.VaultWhole", spec := "vaultWhole", unfollowed := true, recurses := true, apart := false, narrowed := true }
def VaultWholeUptoSaid : Prop := vaultWholeUptoRow.holds Tryz.pinned (OpenSpec.upto vaultWholeSpec)

/-- 'sentinellaw6.VaultTwice', WHERE WHAT IT READS IS OF BULK AT MOST 1048576: true; the input reads as it did. -/
def vaultTwiceUptoRow : OpenClaim := { program := "ytpemjeljhpkjhaagreat", sum := "e6daff0d2690e6d477b902b3048a6f5d0d83a2e4ed4c3b0ffd320160b93742a5", func := "sentinel/sentinellaw6.VaultTwice", spec := "vaultTwice", unfollowed := true, recurses := true, apart := false, narrowed := true }
def VaultTwiceUptoSaid : Prop := vaultTwiceUptoRow.holds Tryz.pinned (OpenSpec.upto vaultTwiceSpec)

/-- 'sentinellaw6.VaultCells', WHERE WHAT IT READS IS OF BULK AT MOST 1048576: true; the input reads as it did. -/
def vaultCellsUptoRow : OpenClaim := { program := "ytpemjeljhpkjhaagreat", sum := "e6daff0d2690e6d477b902b3048a6f5d0d83a2e4ed4c3b0ffd320160b93742a5", func := "sentinel/sentinellaw6.VaultCells", spec := "vaultCells", unfollowed := true, recurses := true, apart := false, narrowed := true }
def VaultCellsUptoSaid : Prop := vaultCellsUptoRow.holds Tryz.pinned (OpenSpec.upto vaultCellsSpec)

/-- 'sentinellaw6.VaultOwn', WHERE WHAT IT READS IS OF BULK AT MOST 1048576: true; the input reads as it did. -/
def vaultOwnUptoRow : OpenClaim := { program := "ytpemjeljhpkjhaagreat", sum := "e6daff0d2690e6d477b902b3048a6f5d0d83a2e4ed4c3b0ffd320160b93742a5", func := "sentinel/sentinellaw6.VaultOwn", spec := "vaultOwn", unfollowed := true, recurses := true, apart := false, narrowed := true }
def VaultOwnUptoSaid : Prop := vaultOwnUptoRow.holds Tryz.pinned (OpenSpec.upto vaultOwnSpec)

end Rows
end Go.Proofs.YtpemjeljhpkjhaaGreat
