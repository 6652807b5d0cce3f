/-
  No cell of these rows narrows 'for every input' (looked for: loops, veiled, ifaces, maps, wideKeys, modest, calm, conditions, laid).
  DERIVED. THE GIVEN ROWS OF THIS SEAT. 5 by the template 'for every input the law returns true; each argument reads behind the call as it read before'; 0 by the template 'total and deterministic' (their statements: YtpemjeljhpkjhaaTotals.lean).
  GIVEN WITH THE SEED: the statements are not yours to turn. If you find one false, say at which input.
  Laid BY PROGRAM, IN A SANDBOX (cutbox-rows.mjs): the forced cells as the released guide's own fill.sh prints them over the translation 855b52e93bb24ac8… (all of the seat's roots in one cut). By AI agents, Wed Nov 11 2026. No macro, syntax, notation, axiom, sorry.
-/
import Derived.Test.YtpemjeljhpkjhaaChecked
import GoSem.Claim
import GoSem.ClaimJoined
import GoSem.ClaimMapViews
import Derived.JoinedTies
import Derived.KernelRfl
namespace Go.Proofs.Ytpemjeljhpkjhaa
/- THE CELL 'sum', in the pinned program and in every row, IS THE sha256 OF THE DUMP (.gsa) THAT YtpemjeljhpkjhaaProg.lean LOADS. Nothing in Lean hashes anything: it is a label: what it is worth is what the hold of that sum in a sandbox is worth. -/
noncomputable def Try.pinned : Pinned := { name := "ytpemjeljhpkjhaa", sum := "855b52e93bb24ac8eaa03d11c88d0809588f76ecb94d5f0f2c339b95fe417af2", checked := Try.checked }
namespace Rows
def none {H : Type} : Left H := { results := [], args := [] }

/-- 'sentinellaw6.VaultEras': WHATEVER THE INPUT: true; the input reads as it did. -/
def vaultErasSpec : ChangeSpec := { name := "vaultEras", fn := fun _ => fun
  | [d1, d2, d3] => { results := [.lit (.bool true)], args := [d1, d2, d3] }
  | _ => none }
def vaultErasRow : OpenClaim := { program := "ytpemjeljhpkjhaa", sum := "855b52e93bb24ac8eaa03d11c88d0809588f76ecb94d5f0f2c339b95fe417af2", func := "sentinel/sentinellaw6.VaultEras", spec := "vaultEras", unfollowed := true, recurses := true, apart := false }
def VaultErasSaid : Prop := vaultErasRow.holds Try.pinned (OpenSpec.ofChange vaultErasSpec)

/-- ITS FALSE NEIGHBOUR: 'it returns false'. Refute it at one input. -/
def vaultErasWrong : ChangeSpec := { name := "vaultEras", fn := fun _ => fun
  | [d1, d2, d3] => { results := [.lit (.bool false)], args := [d1, d2, d3] }
  | _ => none }
def VaultErasWrongFalsely : Prop := vaultErasRow.holds Try.pinned (OpenSpec.ofChange vaultErasWrong)

/-- 'sentinellaw6.VaultTorn': WHATEVER THE INPUT: true; the input reads as it did. -/
def vaultTornSpec : ChangeSpec := { name := "vaultTorn", fn := fun _ => fun
  | [d1, d2, d3, d4] => { results := [.lit (.bool true)], args := [d1, d2, d3, d4] }
  | _ => none }
def vaultTornRow : OpenClaim := { program := "ytpemjeljhpkjhaa", sum := "855b52e93bb24ac8eaa03d11c88d0809588f76ecb94d5f0f2c339b95fe417af2", func := "sentinel/sentinellaw6.VaultTorn", spec := "vaultTorn", unfollowed := true, recurses := true, apart := false }
def VaultTornSaid : Prop := vaultTornRow.holds Try.pinned (OpenSpec.ofChange vaultTornSpec)

/-- ITS FALSE NEIGHBOUR: 'it returns false'. Refute it at one input. -/
def vaultTornWrong : ChangeSpec := { name := "vaultTorn", fn := fun _ => fun
  | [d1, d2, d3, d4] => { results := [.lit (.bool false)], args := [d1, d2, d3, d4] }
  | _ => none }
def VaultTornWrongFalsely : Prop := vaultTornRow.holds Try.pinned (OpenSpec.ofChange vaultTornWrong)

/-- 'sentinellaw6.VaultFull': WHATEVER THE INPUT: true; the input reads as it did. -/
def vaultFullSpec : ChangeSpec := { name := "vaultFull", fn := fun _ => fun
  | [d1, d2, d3] => { results := [.lit (.bool true)], args := [d1, d2, d3] }
  | _ => none }
def vaultFullRow : OpenClaim := { program := "ytpemjeljhpkjhaa", sum := "855b52e93bb24ac8eaa03d11c88d0809588f76ecb94d5f0f2c339b95fe417af2", func := "sentinel/sentinellaw6.VaultFull", spec := "vaultFull", unfollowed := true, recurses := true, apart := false }
def VaultFullSaid : Prop := vaultFullRow.holds Try.pinned (OpenSpec.ofChange vaultFullSpec)

/-- ITS FALSE NEIGHBOUR: 'it returns false'. Refute it at one input. -/
def vaultFullWrong : ChangeSpec := { name := "vaultFull", fn := fun _ => fun
  | [d1, d2, d3] => { results := [.lit (.bool false)], args := [d1, d2, d3] }
  | _ => none }
def VaultFullWrongFalsely : Prop := vaultFullRow.holds Try.pinned (OpenSpec.ofChange vaultFullWrong)

/-- 'sentinellaw6.VaultGets': WHATEVER THE INPUT: true; the input reads as it did. -/
def vaultGetsSpec : ChangeSpec := { name := "vaultGets", fn := fun _ => fun
  | [d1, d2] => { results := [.lit (.bool true)], args := [d1, d2] }
  | _ => none }
def vaultGetsRow : OpenClaim := { program := "ytpemjeljhpkjhaa", sum := "855b52e93bb24ac8eaa03d11c88d0809588f76ecb94d5f0f2c339b95fe417af2", func := "sentinel/sentinellaw6.VaultGets", spec := "vaultGets", unfollowed := true, recurses := true, apart := false }
def VaultGetsSaid : Prop := vaultGetsRow.holds Try.pinned (OpenSpec.ofChange vaultGetsSpec)

/-- ITS FALSE NEIGHBOUR: 'it returns false'. Refute it at one input. -/
def vaultGetsWrong : ChangeSpec := { name := "vaultGets", fn := fun _ => fun
  | [d1, d2] => { results := [.lit (.bool false)], args := [d1, d2] }
  | _ => none }
def VaultGetsWrongFalsely : Prop := vaultGetsRow.holds Try.pinned (OpenSpec.ofChange vaultGetsWrong)

/-- 'sentinellaw6.VaultSteps': WHATEVER THE INPUT: true; the input reads as it did. -/
def vaultStepsSpec : ChangeSpec := { name := "vaultSteps", fn := fun _ => fun
  | [d1, d2, d3, d4] => { results := [.lit (.bool true)], args := [d1, d2, d3, d4] }
  | _ => none }
def vaultStepsRow : OpenClaim := { program := "ytpemjeljhpkjhaa", sum := "855b52e93bb24ac8eaa03d11c88d0809588f76ecb94d5f0f2c339b95fe417af2", func := "sentinel/sentinellaw6.VaultSteps", spec := "vaultSteps", unfollowed := true, recurses := true, apart := false }
def VaultStepsSaid : Prop := vaultStepsRow.holds Try.pinned (OpenSpec.ofChange vaultStepsSpec)

/-- ITS FALSE NEIGHBOUR: 'it returns false'. Refute it at one input. -/
def vaultStepsWrong : ChangeSpec := { name := "vaultSteps", fn := fun _ => fun
  | [d1, d2, d3, d4] => { results := [.lit (.bool false)], args := [d1, d2, d3, d4] }
  | _ => none }
def VaultStepsWrongFalsely : Prop := vaultStepsRow.holds Try.pinned (OpenSpec.ofChange vaultStepsWrong)

/- THE SECOND FORM. 'bulk': how many values and letters a reading holds, each counted each time it is reached (what is shared counts as often as it is met; a slice's spare places count too). A statement '..UptoSaid' is the law's where the arguments, and the package variables that the reading takes, are together of bulk at most 1048576: NARROWER than '..Said'. Prove '..Said' where nothing that the law and all that it calls make is longer than what came in: it says more and counts as full. Else prove '..UptoSaid'. A law counts once. -/
mutual
def uptoBulk {H : Type} : DataW H → Nat
  | .lit (.string bytes) => bytes.length + 1
  | .lit _ => 1
  | .nil => 1
  | .ptr d => uptoBulk d + 1
  | .slice elems spare => uptoBulkAll elems + uptoBulkAll spare + 1
  | .agg parts => uptoBulkAll parts + 1
  | .iface _ d => uptoBulk d + 1
  | .map entries => uptoBulkEntries entries + 1
  | .held _ => 1
def uptoBulkAll {H : Type} : List (DataW H) → Nat
  | [] => 0
  | d :: r => uptoBulk d + uptoBulkAll r
def uptoBulkEntries {H : Type} : List (Lit × DataW H) → Nat
  | [] => 0
  | x :: r => uptoBulkEntry x + uptoBulkEntries r
def uptoBulkEntry {H : Type} : Lit × DataW H → Nat
  | (.string bytes, d) => bytes.length + uptoBulk d + 1
  | (_, d) => uptoBulk d + 1
 end
def uptoSmall : (H : Type) → List (DataW H) → Bool := fun _ ds => decide (uptoBulkAll ds ≤ 1048576)
def OpenSpec.upto (s : _root_.Go.ChangeSpec) : _root_.Go.OpenSpec := { _root_.Go.OpenSpec.ofChange s with cond := some uptoSmall }

/-- 'sentinellaw6.VaultEras', WHERE WHAT IT READS IS OF BULK AT MOST 1048576: true; the input reads as it did. -/
def vaultErasUptoRow : OpenClaim := { program := "ytpemjeljhpkjhaa", sum := "855b52e93bb24ac8eaa03d11c88d0809588f76ecb94d5f0f2c339b95fe417af2", func := "sentinel/sentinellaw6.VaultEras", spec := "vaultEras", unfollowed := true, recurses := true, apart := false, narrowed := true }
def VaultErasUptoSaid : Prop := vaultErasUptoRow.holds Try.pinned (OpenSpec.upto vaultErasSpec)

/-- 'sentinellaw6.VaultTorn', WHERE WHAT IT READS IS OF BULK AT MOST 1048576: true; the input reads as it did. -/
def vaultTornUptoRow : OpenClaim := { program := "ytpemjeljhpkjhaa", sum := "855b52e93bb24ac8eaa03d11c88d0809588f76ecb94d5f0f2c339b95fe417af2", func := "sentinel/sentinellaw6.VaultTorn", spec := "vaultTorn", unfollowed := true, recurses := true, apart := false, narrowed := true }
def VaultTornUptoSaid : Prop := vaultTornUptoRow.holds Try.pinned (OpenSpec.upto vaultTornSpec)

/-- 'sentinellaw6.VaultFull', WHERE WHAT IT READS IS OF BULK AT MOST 1048576: true; the input reads as it did. -/
def vaultFullUptoRow : OpenClaim := { program := "ytpemjeljhpkjhaa", sum := "855b52e93bb24ac8eaa03d11c88d0809588f76ecb94d5f0f2c339b95fe417af2", func := "sentinel/sentinellaw6.VaultFull", spec := "vaultFull", unfollowed := true, recurses := true, apart := false, narrowed := true }
def VaultFullUptoSaid : Prop := vaultFullUptoRow.holds Try.pinned (OpenSpec.upto vaultFullSpec)

/-- 'sentinellaw6.VaultGets', WHERE WHAT IT READS IS OF BULK AT MOST 1048576: true; the input reads as it did. -/
def vaultGetsUptoRow : OpenClaim := { program := "ytpemjeljhpkjhaa", sum := "855b52e93bb24ac8eaa03d11c88d0809588f76ecb94d5f0f2c339b95fe417af2", func := "sentinel/sentinellaw6.VaultGets", spec := "vaultGets", unfollowed := true, recurses := true, apart := false, narrowed := true }
def VaultGetsUptoSaid : Prop := vaultGetsUptoRow.holds Try.pinned (OpenSpec.upto vaultGetsSpec)

/-- 'sentinellaw6.VaultSteps', WHERE WHAT IT READS IS OF BULK AT MOST 1048576: true; the input reads as it did. -/
def vaultStepsUptoRow : OpenClaim := { program := "ytpemjeljhpkjhaa", sum := "855b52e93bb24ac8eaa03d11c88d0809588f76ecb94d5f0f2c339b95fe417af2", func := "sentinel/sentinellaw6.VaultSteps", spec := "vaultSteps", unfollowed := true, recurses := true, apart := false, narrowed := true }
def VaultStepsUptoSaid : Prop := vaultStepsUptoRow.holds Try.pinned (OpenSpec.upto vaultStepsSpec)

end Rows
end Go.Proofs.Ytpemjeljhpkjhaa
