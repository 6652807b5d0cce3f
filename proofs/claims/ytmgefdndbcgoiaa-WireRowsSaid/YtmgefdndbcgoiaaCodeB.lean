/-
  Own work. Conditions: none. THE CODE OF THE FUNCTIONS OF THIS SEAT IN THE EXECUTOR's SHORT FORM (printed by our own program, gen.py), each with the proof that it is what 'comp' gives.
-/
import Derived.Test.YtmgefdndbcgoiaaCodeA
import Derived.Test.YtmgefdndbcgoiaaProg
import Derived.KernelRfl
set_option linter.unusedVariables false
set_option linter.unusedSimpArgs false
set_option linter.unnecessarySimpa false
namespace Go.Abs
open Go.Proofs
set_option maxRecDepth 100000
/-- sentinel/sentinelref5.ReadRecord -/
def N39 : Nat := 82
def mu39 : List Nat := []
def keep39 : List Nat := [0, 2, 3, 4, 5, 6, 7, 79]
def res39 : List RV := [(.c 2 (some 23)), (.t 3)]
def c39 : CC :=
 (.seq (.reg [⟨(some 2), (.alloc (.agg [(.int 0), (.str []), (.sl true 0 0 (.agg []) true), (.u32 0), (.u32 0), (.u32 0), (.u32 0), (.u32 0), (.u32 0), (.u32 0), (.u32 0), (.u32 0), (.u32 0), (.u32 0), (.u32 0), (.u32 0), (.u32 0), (.u32 0), (.u32 0), (.sl true 0 0 (.agg []) true), (.int 0), (.int 0), (.int 0)])), none, 2⟩, ⟨(some 3), (.mov (.c (.bool false))), none, 2⟩]
 [])
 (.seq (.reg [⟨(some 8), (.mov (.t 0)), none, 2⟩, ⟨(some 9), (.build [(.sl true 0 0 (.agg []) true), (.bool false)] [(0, (1, (.t 8)))]), none, 2⟩, ⟨(some 10), (.box (.t 9)), none, 2⟩, ⟨(some 4), (.mov (.t 10)), none, 2⟩]
 [])
 (.seq (.reg [⟨(some 11), (.mov (.t 4)), none, 2⟩, ⟨(some 12), (.call (.c (.fn 69 [])) [(.t 11), (.c (.int 1))]), none, 2⟩, ⟨(some 13), (.call (.c (.fn 68 [])) [(.t 12)]), none, 2⟩, ⟨(some 14), (.build [(.int 0), (.str []), (.sl true 0 0 (.agg []) true), (.u32 0), (.u32 0), (.u32 0), (.u32 0), (.u32 0), (.u32 0), (.u32 0), (.u32 0), (.u32 0), (.u32 0), (.u32 0), (.u32 0), (.u32 0), (.u32 0), (.u32 0), (.u32 0), (.sl true 0 0 (.agg []) true), (.int 0), (.int 0), (.int 0)] [(0, (1, (.t 13)))]), none, 2⟩, ⟨(some 5), (.alloc (.agg [(.int 0), (.str []), (.sl true 0 0 (.agg []) true), (.u32 0), (.u32 0), (.u32 0), (.u32 0), (.u32 0), (.u32 0), (.u32 0), (.u32 0), (.u32 0), (.u32 0), (.u32 0), (.u32 0), (.u32 0), (.u32 0), (.u32 0), (.u32 0), (.sl true 0 0 (.agg []) true), (.int 0), (.int 0), (.int 0)])), none, 2⟩, ⟨none, (.store (some 23) (.t 5) (.t 14)), none, 2⟩]
 [])
 (.seq (.reg [⟨(some 15), (.mov (.t 4)), none, 2⟩, ⟨(some 16), (.mov (.t 4)), none, 2⟩, ⟨(some 17), (.call (.c (.fn 69 [])) [(.t 16), (.c (.int 1))]), none, 2⟩, ⟨(some 18), (.call (.c (.fn 68 [])) [(.t 17)]), none, 2⟩, ⟨(some 19), (.call (.c (.fn 69 [])) [(.t 15), (.t 18)]), none, 2⟩, ⟨(some 20), (.conv .bstr (.t 19)), none, 2⟩, ⟨(some 21), (.fad 1 (.t 5)), none, 2⟩, ⟨none, (.store none (.t 21) (.t 20)), none, 2⟩]
 [])
 (.seq (.reg [⟨(some 22), (.mov (.t 4)), none, 2⟩, ⟨(some 23), (.mov (.t 4)), none, 2⟩, ⟨(some 24), (.call (.c (.fn 69 [])) [(.t 23), (.c (.int 1))]), none, 2⟩, ⟨(some 25), (.call (.c (.fn 68 [])) [(.t 24)]), none, 2⟩, ⟨(some 26), (.call (.c (.fn 69 [])) [(.t 22), (.t 25)]), none, 2⟩, ⟨(some 27), (.fad 2 (.t 5)), none, 2⟩, ⟨none, (.store none (.t 27) (.t 26)), none, 2⟩]
 [])
 (.seq (.reg [⟨(some 28), (.mov (.t 4)), none, 2⟩, ⟨(some 29), (.mov (.t 4)), none, 2⟩, ⟨(some 30), (.call (.c (.fn 69 [])) [(.t 29), (.c (.int 1))]), none, 2⟩, ⟨(some 31), (.call (.c (.fn 68 [])) [(.t 30)]), none, 2⟩, ⟨(some 32), (.call (.c (.fn 69 [])) [(.t 28), (.t 31)]), none, 2⟩, ⟨(some 33), (.fad 19 (.t 5)), none, 2⟩, ⟨none, (.store none (.t 33) (.t 32)), none, 2⟩]
 [])
 (.seq (.reg [⟨(some 35), (.mov (.t 4)), none, 2⟩, ⟨(some 36), (.call (.c (.fn 69 [])) [(.t 35), (.c (.int 4))]), none, 2⟩, ⟨(some 37), (.call (.c (.fn 70 [])) [(.t 36)]), none, 2⟩, ⟨(some 34), (.mov (.t 37)), none, 2⟩, ⟨(some 38), (.ext (.t 34) 0), none, 2⟩, ⟨(some 39), (.ext (.t 34) 1), none, 2⟩, ⟨(some 40), (.fad 3 (.t 5)), none, 2⟩, ⟨none, (.store (some 8) (.t 40) (.t 38)), none, 2⟩]
 [])
 (.seq (.reg [⟨(some 42), (.mov (.t 4)), none, 2⟩, ⟨(some 43), (.call (.c (.fn 69 [])) [(.t 42), (.c (.int 4))]), none, 2⟩, ⟨(some 44), (.call (.c (.fn 70 [])) [(.t 43)]), none, 2⟩, ⟨(some 41), (.mov (.t 44)), none, 2⟩, ⟨(some 45), (.ext (.t 41) 0), none, 2⟩, ⟨(some 46), (.ext (.t 41) 1), none, 2⟩, ⟨(some 47), (.fad 11 (.t 5)), none, 2⟩, ⟨none, (.store (some 8) (.t 47) (.t 45)), none, 2⟩]
 [])
 (.seq (.reg [⟨(some 48), (.mov (.t 4)), none, 2⟩, ⟨(some 49), (.call (.c (.fn 69 [])) [(.t 48), (.c (.int 1))]), none, 2⟩, ⟨(some 50), (.call (.c (.fn 68 [])) [(.t 49)]), none, 2⟩, ⟨(some 51), (.fad 20 (.t 5)), none, 2⟩, ⟨none, (.store none (.t 51) (.t 50)), none, 2⟩]
 [])
 (.seq (.reg [⟨(some 52), (.mov (.t 4)), none, 2⟩, ⟨(some 53), (.call (.c (.fn 69 [])) [(.t 52), (.c (.int 8))]), none, 2⟩, ⟨(some 54), (.call (.c (.fn 68 [])) [(.t 53)]), none, 2⟩, ⟨(some 55), (.fad 21 (.t 5)), none, 2⟩, ⟨none, (.store none (.t 55) (.t 54)), none, 2⟩]
 [])
 (.seq (.reg [⟨(some 56), (.mov (.t 4)), none, 2⟩, ⟨(some 57), (.call (.c (.fn 69 [])) [(.t 56), (.c (.int 8))]), none, 2⟩, ⟨(some 58), (.call (.c (.fn 68 [])) [(.t 57)]), none, 2⟩, ⟨(some 59), (.fad 22 (.t 5)), none, 2⟩, ⟨none, (.store none (.t 59) (.t 58)), none, 2⟩]
 [])
 (.seq (.reg [⟨(some 61), (.load (some 23) (.t 5)), none, 2⟩, ⟨(some 62), (.call (.c (.fn 36 [])) [(.t 61)]), none, 2⟩, ⟨(some 60), (.mov (.t 62)), none, 2⟩, ⟨(some 63), (.ext (.t 60) 0), none, 2⟩, ⟨(some 64), (.ext (.t 60) 1), none, 2⟩, ⟨(some 6), (.mov (.t 63)), none, 2⟩, ⟨(some 7), (.mov (.t 64)), none, 2⟩]
 [])
 (.seq (.seq (.reg [⟨(some 65), (.mov (.t 4)), none, 2⟩, ⟨(some 66), (.nilck (.t 65)), none, 2⟩, ⟨(some 67), (.fad 1 (.t 66)), none, 2⟩, ⟨(some 68), (.load none (.t 67)), none, 2⟩, ⟨(some 69), (.mov (.t 68)), none, 2⟩, ⟨(some 70), (.mov (.t 7)), (some (69, false)), 2⟩, ⟨(some 71), (.un .not (.t 70)), (some (69, false)), 2⟩, ⟨(some 72), (.pick (.t 69) (.c (.bool true)) (.t 71)), none, 2⟩, ⟨(some 73), (.mov (.t 72)), none, 2⟩, ⟨(some 74), (.mov (.t 6)), (some (73, false)), 2⟩, ⟨(some 75), (.conv .bstr (.t 74)), (some (73, false)), 2⟩, ⟨(some 76), (.mov (.t 0)), (some (73, false)), 2⟩, ⟨(some 77), (.conv .bstr (.t 76)), (some (73, false)), 2⟩, ⟨(some 78), (.eq true .sc (.t 75) (.t 77)), (some (73, false)), 2⟩, ⟨(some 79), (.pick (.t 73) (.c (.bool true)) (.t 78)), none, 2⟩]
 [])
 (.cond (.t 79)
 (.seq (.reg [⟨(some 80), (.build [(.int 0), (.str []), (.sl true 0 0 (.agg []) true), (.u32 0), (.u32 0), (.u32 0), (.u32 0), (.u32 0), (.u32 0), (.u32 0), (.u32 0), (.u32 0), (.u32 0), (.u32 0), (.u32 0), (.u32 0), (.u32 0), (.u32 0), (.u32 0), (.sl true 0 0 (.agg []) true), (.int 0), (.int 0), (.int 0)] []), none, 2⟩, ⟨none, (.store (some 23) (.t 2) (.t 80)), none, 2⟩, ⟨(some 3), (.mov (.c (.bool false))), none, 2⟩]
 [])
 .ret)
 .skip))
 (.seq (.reg [⟨(some 81), (.load (some 23) (.t 5)), none, 2⟩, ⟨none, (.store (some 23) (.t 2) (.t 81)), none, 2⟩, ⟨(some 3), (.mov (.c (.bool true))), none, 2⟩]
 [])
 .ret))))))))))))))
theorem c39_ok : comp (tiOf Try.prog) mu39 [19, 21, 22, 25, 34, 38, 41, 42, 43, 46, 50, 56, 57, 58, 59, 62, 63, 65, 66, 71, 72, 73, 74, 75, 76] N39 (Try.f39.body.getD .skip) = c39 := by kernel_rfl
theorem b39 : Try.f39.body = some (Try.f39.body.getD .skip) := by kernel_rfl
theorem run39 {Γ : G} (hsp : SpOK Try.prog Γ.sp) {args : List AV} {h : List AO} {own : Bool} {kn : Nat} {K : AV → List AO → Prop} (hl : args.length ≤ N39) (hk0 : Γ.k0 = hlen h) (hkn : hlen h ≤ kn)
    (hrun : run Γ c39 (leafK Γ.sp res39 own kn K) [] (leafK Γ.sp res39 own kn K) (argS 0 args) h) (htn : Γ.tn ≤ N39 := by exact Nat.zero_le _)
    (hrf : ∀ F, rfind Γ.rf F = true → FdIter Try.prog F ∧ ∀ args w, (callFunc F args).run Try.prog w = .ok (.enter F args) w := by exact fun F h => absurd h (show ¬ (false = true) from Bool.false_ne_true)) : ACalls Try.prog 39 args h K :=
  acalls_of_run (tiOf_ok _) hsp follows Try.func39 b39 (rs := Try.f39.results.toList) (Array.toArray_toList).symm (by kernel_rfl) (by kernel_rfl) c39_ok (by kernel_rfl) hl hk0 htn hrf hkn hrun
theorem in39 : ∀ args w, (callFunc 39 args).run Try.prog w = .ok (.enter 39 args) w := callFunc_enter Try.func39 (by kernel_rfl) (by kernel_rfl)

/-- sentinel/sentinellaw1.Make -/
def N40 : Nat := 97
def mu40 : List Nat := []
def keep40 : List Nat := [0, 1, 4, 5, 6, 7, 8, 9, 17, 40, 56, 67, 68, 71, 76, 79, 88, 91]
def res40 : List RV := [(.c 4 (some 8))]
def c40 : CC :=
 (.seq (.reg [⟨(some 4), (.alloc (.agg [(.u32 0), (.u32 0), (.u32 0), (.u32 0), (.u32 0), (.u32 0), (.u32 0), (.u32 0)])), none, 2⟩]
 [])
 (.seq (.reg [⟨(some 5), (.alloc (.agg [(.u32 0), (.u32 0), (.u32 0), (.u32 0), (.u32 0), (.u32 0), (.u32 0), (.u32 0)])), none, 2⟩]
 [])
 (.seq (.seq (.reg [⟨(some 6), (.mov (.c (.int 0))), none, 2⟩]
 [])
 (.block 0 (.loop (.seq (.seq (.reg [⟨(some 10), (.mov (.t 6)), none, 2⟩, ⟨(some 11), (.bin .lss (.t 10) (.c (.int 8))), none, 2⟩, ⟨(some 12), (.mov (.t 11)), none, 2⟩, ⟨(some 13), (.mov (.t 6)), (some (12, true)), 2⟩, ⟨(some 14), (.mov (.t 1)), (some (12, true)), 2⟩, ⟨(some 15), (.len false (.t 14)), (some (12, true)), 2⟩, ⟨(some 16), (.bin .lss (.t 13) (.t 15)), (some (12, true)), 2⟩, ⟨(some 17), (.pick (.t 12) (.t 16) (.c (.bool false))), none, 2⟩]
 [])
 (.cond (.t 17)
 .skip
 (.exit 0)))
 (.seq (.block 1 (.seq (.reg [⟨(some 20), (.mov (.t 6)), none, 0⟩, ⟨(some 21), (.mov (.t 1)), none, 0⟩, ⟨(some 22), (.mov (.t 6)), none, 0⟩, ⟨(some 23), (.iadS 1 (.t 21) (.t 22)), none, 0⟩, ⟨(some 24), (.load none (.t 23)), none, 1⟩, ⟨(some 25), (.conv .iu32 (.t 24)), none, 0⟩, ⟨(some 26), (.mov (.t 1)), none, 0⟩, ⟨(some 27), (.mov (.t 6)), none, 0⟩, ⟨(some 28), (.iadS 1 (.t 26) (.t 27)), none, 0⟩, ⟨(some 29), (.load none (.t 28)), none, 1⟩, ⟨(some 30), (.bin .shr (.t 29) (.c (.u64 32))), none, 0⟩, ⟨(some 31), (.conv .iu32 (.t 30)), none, 0⟩, ⟨(some 32), (.bin .mul (.t 31) (.c (.u32 7))), none, 0⟩, ⟨(some 33), (.bin .xor (.t 25) (.t 32)), none, 0⟩, ⟨(some 34), (.iadA 8 1 (.t 5) (.t 20)), none, 0⟩, ⟨none, (.store none (.t 34) (.t 33)), none, 2⟩]
 [])
 (.seq (.seq (.reg [⟨(some 35), (.mov (.t 1)), none, 2⟩, ⟨(some 36), (.mov (.t 6)), none, 2⟩, ⟨(some 37), (.iadS 1 (.t 35) (.t 36)), none, 2⟩, ⟨(some 38), (.load none (.t 37)), none, 2⟩, ⟨(some 39), (.call (.c (.fn 71 [])) [(.t 38), (.c (.int 5))]), none, 2⟩, ⟨(some 40), (.eq false .sc (.t 39) (.c (.int 0))), none, 2⟩]
 [])
 (.cond (.t 40)
 (.reg [⟨(some 41), (.mov (.t 6)), none, 2⟩, ⟨(some 42), (.mov (.t 1)), none, 2⟩, ⟨(some 43), (.mov (.t 6)), none, 2⟩, ⟨(some 44), (.iadS 1 (.t 42) (.t 43)), none, 2⟩, ⟨(some 45), (.load none (.t 44)), none, 2⟩, ⟨(some 46), (.bin .quo (.t 45) (.c (.int 5))), none, 2⟩, ⟨(some 47), (.call (.c (.fn 71 [])) [(.t 46), (.c (.int 3))]), none, 2⟩, ⟨(some 48), (.conv .iu32 (.t 47)), none, 2⟩, ⟨(some 49), (.bin .sub (.c (.u32 4294967295)) (.t 48)), none, 2⟩, ⟨(some 50), (.iadA 8 1 (.t 5) (.t 41)), none, 2⟩, ⟨none, (.store none (.t 50) (.t 49)), none, 2⟩]
 [])
 .skip))
 (.seq (.reg [⟨(some 51), (.mov (.t 1)), none, 2⟩, ⟨(some 52), (.mov (.t 6)), none, 2⟩, ⟨(some 53), (.iadS 1 (.t 51) (.t 52)), none, 2⟩, ⟨(some 54), (.load none (.t 53)), none, 2⟩, ⟨(some 55), (.call (.c (.fn 71 [])) [(.t 54), (.c (.int 7))]), none, 2⟩, ⟨(some 56), (.eq false .sc (.t 55) (.c (.int 0))), none, 2⟩]
 [])
 (.cond (.t 56)
 (.reg [⟨(some 57), (.mov (.t 6)), none, 2⟩, ⟨(some 58), (.mov (.t 1)), none, 2⟩, ⟨(some 59), (.mov (.t 6)), none, 2⟩, ⟨(some 60), (.iadS 1 (.t 58) (.t 59)), none, 2⟩, ⟨(some 61), (.load none (.t 60)), none, 2⟩, ⟨(some 62), (.bin .quo (.t 61) (.c (.int 7))), none, 2⟩, ⟨(some 63), (.call (.c (.fn 71 [])) [(.t 62), (.c (.int 3))]), none, 2⟩, ⟨(some 64), (.conv .iu32 (.t 63)), none, 2⟩, ⟨(some 65), (.iadA 8 1 (.t 5) (.t 57)), none, 2⟩, ⟨none, (.store none (.t 65) (.t 64)), none, 2⟩]
 [])
 .skip)))))
 (.reg [⟨(some 18), (.mov (.t 6)), none, 2⟩, ⟨(some 19), (.bin .add (.t 18) (.c (.int 1))), none, 2⟩, ⟨(some 6), (.mov (.t 19)), none, 2⟩]
 []))))))
 (.seq (.seq (.reg [⟨(some 66), (.mov (.t 0)), none, 2⟩, ⟨(some 67), (.call (.c (.fn 71 [])) [(.t 66), (.c (.int 6))]), none, 2⟩]
 [])
 (.block 2 (.seq (.reg [⟨(some 69), (.eq false .sc (.t 67) (.c (.int 0))), none, 2⟩, ⟨(some 68), (.mov (.t 69)), none, 2⟩]
 [])
 (.cond (.t 68)
 (.seq (.reg [⟨(some 7), (.mov (.c (.int 1))), none, 2⟩]
 [])
 (.block 3 (.loop (.seq (.seq (.reg [⟨(some 70), (.mov (.t 7)), none, 2⟩, ⟨(some 71), (.bin .lss (.t 70) (.c (.int 8))), none, 2⟩]
 [])
 (.cond (.t 71)
 .skip
 (.exit 3)))
 (.seq (.block 4 (.reg [⟨(some 74), (.mov (.t 7)), none, 2⟩, ⟨(some 75), (.iadA 8 1 (.t 5) (.t 74)), none, 2⟩, ⟨none, (.store none (.t 75) (.c (.u32 0))), none, 2⟩]
 []))
 (.reg [⟨(some 72), (.mov (.t 7)), none, 2⟩, ⟨(some 73), (.bin .add (.t 72) (.c (.int 1))), none, 2⟩, ⟨(some 7), (.mov (.t 73)), none, 2⟩]
 []))))))
 (.seq (.reg [⟨(some 77), (.eq false .sc (.t 67) (.c (.int 1))), none, 2⟩, ⟨(some 76), (.mov (.t 77)), none, 2⟩]
 [])
 (.cond (.t 76)
 (.seq (.reg [⟨(some 8), (.mov (.c (.int 0))), none, 2⟩]
 [])
 (.block 5 (.loop (.seq (.seq (.reg [⟨(some 78), (.mov (.t 8)), none, 2⟩, ⟨(some 79), (.bin .lss (.t 78) (.c (.int 8))), none, 2⟩]
 [])
 (.cond (.t 79)
 .skip
 (.exit 5)))
 (.seq (.block 6 (.reg [⟨(some 82), (.mov (.t 8)), none, 2⟩, ⟨(some 83), (.mov (.t 8)), none, 2⟩, ⟨(some 84), (.iadA 8 1 (.t 5) (.t 83)), none, 2⟩, ⟨(some 85), (.load none (.t 84)), none, 2⟩, ⟨(some 86), (.un .xor (.t 85)), none, 2⟩, ⟨(some 87), (.iadA 8 1 (.t 5) (.t 82)), none, 2⟩, ⟨none, (.store none (.t 87) (.t 86)), none, 2⟩]
 []))
 (.reg [⟨(some 80), (.mov (.t 8)), none, 2⟩, ⟨(some 81), (.bin .add (.t 80) (.c (.int 1))), none, 2⟩, ⟨(some 8), (.mov (.t 81)), none, 2⟩]
 []))))))
 (.seq (.reg [⟨(some 89), (.eq false .sc (.t 67) (.c (.int 2))), none, 2⟩, ⟨(some 88), (.mov (.t 89)), none, 2⟩]
 [])
 (.cond (.t 88)
 (.seq (.reg [⟨(some 9), (.mov (.c (.int 4))), none, 2⟩]
 [])
 (.block 7 (.loop (.seq (.seq (.reg [⟨(some 90), (.mov (.t 9)), none, 2⟩, ⟨(some 91), (.bin .lss (.t 90) (.c (.int 8))), none, 2⟩]
 [])
 (.cond (.t 91)
 .skip
 (.exit 7)))
 (.seq (.block 8 (.reg [⟨(some 94), (.mov (.t 9)), none, 2⟩, ⟨(some 95), (.iadA 8 1 (.t 5) (.t 94)), none, 2⟩, ⟨none, (.store none (.t 95) (.c (.u32 0))), none, 2⟩]
 []))
 (.reg [⟨(some 92), (.mov (.t 9)), none, 2⟩, ⟨(some 93), (.bin .add (.t 92) (.c (.int 1))), none, 2⟩, ⟨(some 9), (.mov (.t 93)), none, 2⟩]
 []))))))
 .skip))))))))
 (.seq (.reg [⟨(some 96), (.load (some 8) (.t 5)), none, 2⟩, ⟨none, (.store (some 8) (.t 4) (.t 96)), none, 2⟩]
 [])
 .ret)))))
theorem c40_ok : comp (tiOf Try.prog) mu40 [19, 21, 22, 25, 34, 38, 41, 42, 43, 46, 50, 56, 57, 58, 59, 62, 63, 65, 66, 71, 72, 73, 74, 75, 76] N40 (Try.f40.body.getD .skip) = c40 := by kernel_rfl
theorem b40 : Try.f40.body = some (Try.f40.body.getD .skip) := by kernel_rfl
theorem run40 {Γ : G} (hsp : SpOK Try.prog Γ.sp) {args : List AV} {h : List AO} {own : Bool} {kn : Nat} {K : AV → List AO → Prop} (hl : args.length ≤ N40) (hk0 : Γ.k0 = hlen h) (hkn : hlen h ≤ kn)
    (hrun : run Γ c40 (leafK Γ.sp res40 own kn K) [] (leafK Γ.sp res40 own kn K) (argS 0 args) h) (htn : Γ.tn ≤ N40 := by exact Nat.zero_le _)
    (hrf : ∀ F, rfind Γ.rf F = true → FdIter Try.prog F ∧ ∀ args w, (callFunc F args).run Try.prog w = .ok (.enter F args) w := by exact fun F h => absurd h (show ¬ (false = true) from Bool.false_ne_true)) : ACalls Try.prog 40 args h K :=
  acalls_of_run (tiOf_ok _) hsp follows Try.func40 b40 (rs := Try.f40.results.toList) (Array.toArray_toList).symm (by kernel_rfl) (by kernel_rfl) c40_ok (by kernel_rfl) hl hk0 htn hrf hkn hrun
theorem in40 : ∀ args w, (callFunc 40 args).run Try.prog w = .ok (.enter 40 args) w := callFunc_enter Try.func40 (by kernel_rfl) (by kernel_rfl)

/-- sentinel/sentinelref1.Bits -/
def N41 : Nat := 14
def mu41 : List Nat := []
def keep41 : List Nat := [0, 1, 2, 3, 5, 11]
def res41 : List RV := [(.t 2)]
def c41 : CC :=
 (.seq (.reg [⟨(some 1), (.box (.t 0)), none, 2⟩, ⟨(some 2), (.mov (.c (.int 0))), none, 2⟩]
 [])
 (.seq (.seq (.reg [⟨(some 3), (.mov (.c (.int 255))), none, 2⟩]
 [])
 (.block 0 (.loop (.seq (.seq (.reg [⟨(some 4), (.mov (.t 3)), none, 2⟩, ⟨(some 5), (.bin .geq (.t 4) (.c (.int 0))), none, 2⟩]
 [])
 (.cond (.t 5)
 .skip
 (.exit 0)))
 (.seq (.block 1 (.seq (.reg [⟨(some 8), (.load (some 8) (.t 1)), none, 2⟩, ⟨(some 9), (.mov (.t 3)), none, 2⟩, ⟨(some 10), (.call (.c (.fn 72 [])) [(.t 8), (.t 9)]), none, 2⟩, ⟨(some 11), (.bin .gtr (.t 10) (.c (.u32 0))), none, 2⟩]
 [])
 (.cond (.t 11)
 (.seq (.reg [⟨(some 12), (.mov (.t 3)), none, 2⟩, ⟨(some 13), (.bin .add (.t 12) (.c (.int 1))), none, 2⟩, ⟨(some 2), (.mov (.t 13)), none, 2⟩]
 [])
 .ret)
 .skip)))
 (.reg [⟨(some 6), (.mov (.t 3)), none, 2⟩, ⟨(some 7), (.bin .sub (.t 6) (.c (.int 1))), none, 2⟩, ⟨(some 3), (.mov (.t 7)), none, 2⟩]
 []))))))
 (.seq (.reg [⟨(some 2), (.mov (.c (.int 0))), none, 2⟩]
 [])
 .ret)))
theorem c41_ok : comp (tiOf Try.prog) mu41 [19, 21, 22, 25, 34, 38, 41, 42, 43, 46, 50, 56, 57, 58, 59, 62, 63, 65, 66, 71, 72, 73, 74, 75, 76] N41 (Try.f41.body.getD .skip) = c41 := by kernel_rfl
theorem b41 : Try.f41.body = some (Try.f41.body.getD .skip) := by kernel_rfl
theorem run41 {Γ : G} (hsp : SpOK Try.prog Γ.sp) {args : List AV} {h : List AO} {own : Bool} {kn : Nat} {K : AV → List AO → Prop} (hl : args.length ≤ N41) (hk0 : Γ.k0 = hlen h) (hkn : hlen h ≤ kn)
    (hrun : run Γ c41 (leafK Γ.sp res41 own kn K) [] (leafK Γ.sp res41 own kn K) (argS 0 args) h) (htn : Γ.tn ≤ N41 := by exact Nat.zero_le _)
    (hrf : ∀ F, rfind Γ.rf F = true → FdIter Try.prog F ∧ ∀ args w, (callFunc F args).run Try.prog w = .ok (.enter F args) w := by exact fun F h => absurd h (show ¬ (false = true) from Bool.false_ne_true)) : ACalls Try.prog 41 args h K :=
  acalls_of_run (tiOf_ok _) hsp follows Try.func41 b41 (rs := Try.f41.results.toList) (Array.toArray_toList).symm (by kernel_rfl) (by kernel_rfl) c41_ok (by kernel_rfl) hl hk0 htn hrf hkn hrun
theorem in41 : ∀ args w, (callFunc 41 args).run Try.prog w = .ok (.enter 41 args) w := callFunc_enter Try.func41 (by kernel_rfl) (by kernel_rfl)

/-- sentinel/sentinellaw5.Name -/
def N42 : Nat := 33
def mu42 : List Nat := [6]
def keep42 : List Nat := [0, 2, 3, 4, 10, 26]
def res42 : List RV := [(.t 2)]
def c42 : CC :=
 (.seq (.reg [⟨(some 2), (.mov (.c (.str []))), none, 2⟩]
 [])
 (.seq (.reg [⟨(some 5), (.mov (.t 0)), none, 2⟩, ⟨(some 6), (.conv (.strb true) (.t 5)), none, 2⟩, ⟨(some 3), (.mov (.t 6)), none, 2⟩]
 [])
 (.seq (.seq (.reg [⟨(some 4), (.mov (.c (.int 0))), none, 2⟩]
 [])
 (.block 0 (.loop (.seq (.seq (.reg [⟨(some 7), (.mov (.t 4)), none, 2⟩, ⟨(some 8), (.mov (.t 3)), none, 2⟩, ⟨(some 9), (.len false (.t 8)), none, 2⟩, ⟨(some 10), (.bin .lss (.t 7) (.t 9)), none, 2⟩]
 [])
 (.cond (.t 10)
 .skip
 (.exit 0)))
 (.seq (.block 1 (.reg [⟨(some 13), (.mov (.t 3)), none, 2⟩, ⟨(some 14), (.mov (.t 4)), none, 2⟩, ⟨(some 15), (.mov (.t 3)), none, 2⟩, ⟨(some 16), (.mov (.t 4)), none, 2⟩, ⟨(some 17), (.iadS 1 (.t 15) (.t 16)), none, 2⟩, ⟨(some 18), (.load none (.t 17)), none, 2⟩, ⟨(some 19), (.conv .u8i (.t 18)), none, 2⟩, ⟨(some 20), (.call (.c (.fn 22 [])) [(.t 19), (.c (.int 94))]), none, 2⟩, ⟨(some 21), (.bin .add (.c (.int 33)) (.t 20)), none, 2⟩, ⟨(some 22), (.conv .iu8 (.t 21)), none, 2⟩, ⟨(some 23), (.iadS 1 (.t 13) (.t 14)), none, 2⟩, ⟨none, (.store none (.t 23) (.t 22)), none, 2⟩]
 []))
 (.reg [⟨(some 11), (.mov (.t 4)), none, 2⟩, ⟨(some 12), (.bin .add (.t 11) (.c (.int 1))), none, 2⟩, ⟨(some 4), (.mov (.t 12)), none, 2⟩]
 []))))))
 (.seq (.seq (.reg [⟨(some 24), (.mov (.t 3)), none, 2⟩, ⟨(some 25), (.len false (.t 24)), none, 2⟩, ⟨(some 26), (.eq false .sc (.t 25) (.c (.int 0))), none, 2⟩]
 [])
 (.cond (.t 26)
 (.seq (.reg [⟨(some 2), (.mov (.c (.str [117]))), none, 2⟩]
 [])
 .ret)
 .skip))
 (.seq (.reg [⟨(some 27), (.mov (.t 3)), none, 2⟩, ⟨(some 28), (.mov (.t 3)), none, 2⟩, ⟨(some 29), (.len false (.t 28)), none, 2⟩, ⟨(some 30), (.mn (.t 29) (.c (.int 16))), none, 2⟩, ⟨(some 31), (.slcS 1 (.t 27) none (some (.t 30)) none), none, 2⟩, ⟨(some 32), (.conv .bstr (.t 31)), none, 2⟩, ⟨(some 2), (.mov (.t 32)), none, 2⟩]
 [])
 .ret)))))
theorem c42_ok : comp (tiOf Try.prog) mu42 [19, 21, 22, 25, 34, 38, 41, 42, 43, 46, 50, 56, 57, 58, 59, 62, 63, 65, 66, 71, 72, 73, 74, 75, 76] N42 (Try.f42.body.getD .skip) = c42 := by kernel_rfl
theorem b42 : Try.f42.body = some (Try.f42.body.getD .skip) := by kernel_rfl
theorem run42 {Γ : G} (hsp : SpOK Try.prog Γ.sp) {args : List AV} {h : List AO} {own : Bool} {kn : Nat} {K : AV → List AO → Prop} (hl : args.length ≤ N42) (hk0 : Γ.k0 = hlen h) (hkn : hlen h ≤ kn)
    (hrun : run Γ c42 (leafK Γ.sp res42 own kn K) [] (leafK Γ.sp res42 own kn K) (argS 0 args) h) (htn : Γ.tn ≤ N42 := by exact Nat.zero_le _)
    (hrf : ∀ F, rfind Γ.rf F = true → FdIter Try.prog F ∧ ∀ args w, (callFunc F args).run Try.prog w = .ok (.enter F args) w := by exact fun F h => absurd h (show ¬ (false = true) from Bool.false_ne_true)) : ACalls Try.prog 42 args h K :=
  acalls_of_run (tiOf_ok _) hsp follows Try.func42 b42 (rs := Try.f42.results.toList) (Array.toArray_toList).symm (by kernel_rfl) (by kernel_rfl) c42_ok (by kernel_rfl) hl hk0 htn hrf hkn hrun
theorem in42 : ∀ args w, (callFunc 42 args).run Try.prog w = .ok (.enter 42 args) w := callFunc_enter Try.func42 (by kernel_rfl) (by kernel_rfl)

/-- sentinel/sentinellaw5.some -/
def N43 : Nat := 41
def mu43 : List Nat := []
def keep43 : List Nat := [0, 1, 2, 6, 7, 8, 9, 18, 32]
def res43 : List RV := [(.t 6)]
def c43 : CC :=
 (.seq (.reg [⟨(some 6), (.mov (.c (.sl true 0 0 (.agg []) true))), none, 2⟩]
 [])
 (.seq (.reg [⟨(some 10), (.mov (.t 1)), none, 2⟩, ⟨(some 11), (.mov (.t 2)), none, 2⟩, ⟨(some 12), (.call (.c (.fn 22 [])) [(.t 10), (.t 11)]), none, 2⟩, ⟨(some 13), (.bin .add (.c (.int 1)) (.t 12)), none, 2⟩, ⟨(some 7), (.mov (.t 13)), none, 2⟩]
 [])
 (.seq (.reg [⟨(some 14), (.mov (.t 7)), none, 2⟩, ⟨(some 15), (.mksl .u8 1 1 [(.u8 0)] (.t 14) (.t 14)), none, 2⟩, ⟨(some 8), (.mov (.t 15)), none, 2⟩]
 [])
 (.seq (.seq (.reg [⟨(some 9), (.mov (.c (.int 0))), none, 2⟩]
 [])
 (.block 0 (.loop (.seq (.seq (.reg [⟨(some 16), (.mov (.t 9)), none, 2⟩, ⟨(some 17), (.mov (.t 7)), none, 2⟩, ⟨(some 18), (.bin .lss (.t 16) (.t 17)), none, 2⟩]
 [])
 (.cond (.t 18)
 .skip
 (.exit 0)))
 (.seq (.block 1 (.seq (.reg [⟨(some 21), (.mov (.t 8)), none, 2⟩, ⟨(some 22), (.mov (.t 9)), none, 2⟩, ⟨(some 23), (.mov (.t 1)), none, 2⟩, ⟨(some 24), (.mov (.t 9)), none, 2⟩, ⟨(some 25), (.bin .mul (.t 24) (.c (.int 7))), none, 2⟩, ⟨(some 26), (.bin .add (.t 23) (.t 25)), none, 2⟩, ⟨(some 27), (.conv .iu8 (.t 26)), none, 2⟩, ⟨(some 28), (.iadS 1 (.t 21) (.t 22)), none, 2⟩, ⟨none, (.store none (.t 28) (.t 27)), none, 2⟩]
 [])
 (.seq (.reg [⟨(some 29), (.mov (.t 9)), none, 2⟩, ⟨(some 30), (.mov (.t 0)), none, 2⟩, ⟨(some 31), (.len false (.t 30)), none, 2⟩, ⟨(some 32), (.bin .lss (.t 29) (.t 31)), none, 2⟩]
 [])
 (.cond (.t 32)
 (.reg [⟨(some 33), (.mov (.t 8)), none, 2⟩, ⟨(some 34), (.mov (.t 9)), none, 2⟩, ⟨(some 35), (.mov (.t 0)), none, 2⟩, ⟨(some 36), (.mov (.t 9)), none, 2⟩, ⟨(some 37), (.iadS 1 (.t 35) (.t 36)), none, 2⟩, ⟨(some 38), (.load none (.t 37)), none, 2⟩, ⟨(some 39), (.iadS 1 (.t 33) (.t 34)), none, 2⟩, ⟨none, (.store none (.t 39) (.t 38)), none, 2⟩]
 [])
 .skip))))
 (.reg [⟨(some 19), (.mov (.t 9)), none, 2⟩, ⟨(some 20), (.bin .add (.t 19) (.c (.int 1))), none, 2⟩, ⟨(some 9), (.mov (.t 20)), none, 2⟩]
 []))))))
 (.seq (.reg [⟨(some 40), (.mov (.t 8)), none, 2⟩, ⟨(some 6), (.mov (.t 40)), none, 2⟩]
 [])
 .ret)))))
theorem c43_ok : comp (tiOf Try.prog) mu43 [19, 21, 22, 25, 34, 38, 41, 42, 43, 46, 50, 56, 57, 58, 59, 62, 63, 65, 66, 71, 72, 73, 74, 75, 76] N43 (Try.f43.body.getD .skip) = c43 := by kernel_rfl
theorem b43 : Try.f43.body = some (Try.f43.body.getD .skip) := by kernel_rfl
theorem run43 {Γ : G} (hsp : SpOK Try.prog Γ.sp) {args : List AV} {h : List AO} {own : Bool} {kn : Nat} {K : AV → List AO → Prop} (hl : args.length ≤ N43) (hk0 : Γ.k0 = hlen h) (hkn : hlen h ≤ kn)
    (hrun : run Γ c43 (leafK Γ.sp res43 own kn K) [] (leafK Γ.sp res43 own kn K) (argS 0 args) h) (htn : Γ.tn ≤ N43 := by exact Nat.zero_le _)
    (hrf : ∀ F, rfind Γ.rf F = true → FdIter Try.prog F ∧ ∀ args w, (callFunc F args).run Try.prog w = .ok (.enter F args) w := by exact fun F h => absurd h (show ¬ (false = true) from Bool.false_ne_true)) : ACalls Try.prog 43 args h K :=
  acalls_of_run (tiOf_ok _) hsp follows Try.func43 b43 (rs := Try.f43.results.toList) (Array.toArray_toList).symm (by kernel_rfl) (by kernel_rfl) c43_ok (by kernel_rfl) hl hk0 htn hrf hkn hrun
theorem in43 : ∀ args w, (callFunc 43 args).run Try.prog w = .ok (.enter 43 args) w := callFunc_enter Try.func43 (by kernel_rfl) (by kernel_rfl)

/-- sentinel/wire.fields -/
def N44 : Nat := 73
def mu44 : List Nat := [59]
def keep44 : List Nat := [0, 1, 2, 3]
def res44 : List RV := [(.t 2)]
def c44 : CC :=
 (.seq (.reg [⟨(some 1), (.box (.t 0)), none, 2⟩, ⟨(some 2), (.mov (.c .nilf)), none, 2⟩]
 [])
 (.seq (.reg [⟨(some 4), (.fad 1 (.t 1)), none, 0⟩, ⟨(some 5), (.load none (.t 4)), none, 1⟩, ⟨(some 6), (.call (.c (.fn 73 [])) [(.t 5), (.c (.int 1))]), none, 0⟩, ⟨(some 7), (.fad 1 (.t 1)), none, 0⟩, ⟨(some 8), (.load none (.t 7)), none, 1⟩, ⟨(some 9), (.bin .geq (.t 8) (.c (.int 0))), none, 0⟩, ⟨(some 10), (.mov (.t 9)), none, 0⟩, ⟨(some 11), (.fad 1 (.t 1)), (some (10, true)), 0⟩, ⟨(some 12), (.load none (.t 11)), (some (10, true)), 1⟩, ⟨(some 13), (.bin .leq (.t 12) (.c (.int 2))), (some (10, true)), 0⟩, ⟨(some 14), (.pick (.t 10) (.t 13) (.c (.bool false))), none, 0⟩, ⟨(some 15), (.build [(.int 0), (.sl true 0 0 (.agg []) true), (.bool false)] [(0, (1, (.c (.int 1)))), (1, (1, (.t 6))), (2, (1, (.t 14)))]), none, 0⟩, ⟨(some 16), (.fad 4 (.t 1)), none, 0⟩, ⟨(some 17), (.load none (.t 16)), none, 1⟩, ⟨(some 18), (.call (.c (.fn 74 [])) [(.c (.int 2)), (.t 17), (.c (.int 16))]), none, 0⟩, ⟨(some 19), (.fad 5 (.t 1)), none, 0⟩, ⟨(some 20), (.load (some 8) (.t 19)), none, 1⟩, ⟨(some 21), (.call (.c (.fn 75 [])) [(.c (.int 3)), (.t 20)]), none, 0⟩, ⟨(some 22), (.fad 13 (.t 1)), none, 0⟩, ⟨(some 23), (.load (some 8) (.t 22)), none, 1⟩, ⟨(some 24), (.call (.c (.fn 75 [])) [(.c (.int 4)), (.t 23)]), none, 0⟩, ⟨(some 25), (.fad 21 (.t 1)), none, 0⟩, ⟨(some 26), (.load none (.t 25)), none, 1⟩, ⟨(some 27), (.call (.c (.fn 76 [])) [(.c (.int 5)), (.t 26), (.c (.int 16))]), none, 0⟩, ⟨(some 28), (.fad 22 (.t 1)), none, 0⟩, ⟨(some 29), (.load none (.t 28)), none, 1⟩, ⟨(some 30), (.call (.c (.fn 76 [])) [(.c (.int 6)), (.t 29), (.c (.int 48))]), none, 0⟩, ⟨(some 31), (.fad 23 (.t 1)), none, 0⟩, ⟨(some 32), (.load none (.t 31)), none, 1⟩, ⟨(some 33), (.call (.c (.fn 76 [])) [(.c (.int 7)), (.t 32), (.c (.int 16))]), none, 0⟩, ⟨(some 34), (.fad 24 (.t 1)), none, 0⟩, ⟨(some 35), (.load none (.t 34)), none, 1⟩, ⟨(some 36), (.call (.c (.fn 76 [])) [(.c (.int 8)), (.t 35), (.c (.int 80))]), none, 0⟩, ⟨(some 37), (.fad 25 (.t 1)), none, 0⟩, ⟨(some 38), (.load none (.t 37)), none, 1⟩, ⟨(some 39), (.call (.c (.fn 76 [])) [(.c (.int 9)), (.t 38), (.c (.int 120))]), none, 0⟩, ⟨(some 40), (.fad 2 (.t 1)), none, 0⟩, ⟨(some 41), (.load none (.t 40)), none, 1⟩, ⟨(some 42), (.call (.c (.fn 73 [])) [(.t 41), (.c (.int 8))]), none, 0⟩, ⟨(some 43), (.fad 2 (.t 1)), none, 0⟩, ⟨(some 44), (.load none (.t 43)), none, 1⟩, ⟨(some 45), (.bin .geq (.t 44) (.c (.int 0))), none, 0⟩, ⟨(some 46), (.build [(.int 0), (.sl true 0 0 (.agg []) true), (.bool false)] [(0, (1, (.c (.int 10)))), (1, (1, (.t 42))), (2, (1, (.t 45)))]), none, 0⟩, ⟨(some 47), (.fad 3 (.t 1)), none, 0⟩, ⟨(some 48), (.load none (.t 47)), none, 1⟩, ⟨(some 49), (.call (.c (.fn 73 [])) [(.t 48), (.c (.int 1))]), none, 0⟩, ⟨(some 50), (.fad 3 (.t 1)), none, 0⟩, ⟨(some 51), (.load none (.t 50)), none, 1⟩, ⟨(some 52), (.bin .geq (.t 51) (.c (.int 0))), none, 0⟩, ⟨(some 53), (.mov (.t 52)), none, 0⟩, ⟨(some 54), (.fad 3 (.t 1)), (some (53, true)), 0⟩, ⟨(some 55), (.load none (.t 54)), (some (53, true)), 1⟩, ⟨(some 56), (.bin .leq (.t 55) (.c (.int 11))), (some (53, true)), 0⟩, ⟨(some 57), (.pick (.t 53) (.t 56) (.c (.bool false))), none, 0⟩, ⟨(some 58), (.build [(.int 0), (.sl true 0 0 (.agg []) true), (.bool false)] [(0, (1, (.c (.int 11)))), (1, (1, (.t 49))), (2, (1, (.t 57)))]), none, 0⟩, ⟨(some 59), (.bsl true .other 3 11 [(.int 0), (.sl true 0 0 (.agg []) true), (.bool false)] [(0, (3, (.t 15))), (3, (3, (.t 18))), (6, (3, (.t 21))), (9, (3, (.t 24))), (12, (3, (.t 27))), (15, (3, (.t 30))), (18, (3, (.t 33))), (21, (3, (.t 36))), (24, (3, (.t 39))), (27, (3, (.t 46))), (30, (3, (.t 58)))]), none, 2⟩, ⟨(some 3), (.mov (.t 59)), none, 0⟩]
 [])
 (.seq (.reg [⟨(some 60), (.mov (.t 3)), none, 2⟩, ⟨(some 61), (.fad 4 (.t 1)), none, 2⟩, ⟨(some 62), (.load none (.t 61)), none, 2⟩, ⟨(some 63), (.eq false .sc (.t 62) (.c (.str []))), none, 2⟩, ⟨(some 64), (.mov (.t 63)), none, 2⟩, ⟨(some 65), (.fad 4 (.t 1)), (some (64, false)), 2⟩, ⟨(some 66), (.load none (.t 65)), (some (64, false)), 2⟩, ⟨(some 67), (.call (.c (.fn 60 [])) [(.t 66)]), (some (64, false)), 2⟩, ⟨(some 68), (.pick (.t 64) (.c (.bool true)) (.t 67)), none, 2⟩, ⟨(some 69), (.iadS 3 (.t 60) (.c (.int 1))), none, 2⟩, ⟨(some 70), (.fad 2 (.t 69)), none, 2⟩, ⟨none, (.store none (.t 70) (.t 68)), none, 2⟩]
 [])
 (.seq (.reg [⟨(some 71), (.mov (.t 3)), none, 2⟩, ⟨(some 72), (.call (.c (.fn 77 [])) [(.t 71)]), none, 2⟩, ⟨(some 2), (.mov (.t 72)), none, 2⟩]
 [])
 .ret))))
theorem c44_ok : comp (tiOf Try.prog) mu44 [19, 21, 22, 25, 34, 38, 41, 42, 43, 46, 50, 56, 57, 58, 59, 62, 63, 65, 66, 71, 72, 73, 74, 75, 76] N44 (Try.f44.body.getD .skip) = c44 := by kernel_rfl
theorem b44 : Try.f44.body = some (Try.f44.body.getD .skip) := by kernel_rfl
theorem run44 {Γ : G} (hsp : SpOK Try.prog Γ.sp) {args : List AV} {h : List AO} {own : Bool} {kn : Nat} {K : AV → List AO → Prop} (hl : args.length ≤ N44) (hk0 : Γ.k0 = hlen h) (hkn : hlen h ≤ kn)
    (hrun : run Γ c44 (leafK Γ.sp res44 own kn K) [] (leafK Γ.sp res44 own kn K) (argS 0 args) h) (htn : Γ.tn ≤ N44 := by exact Nat.zero_le _)
    (hrf : ∀ F, rfind Γ.rf F = true → FdIter Try.prog F ∧ ∀ args w, (callFunc F args).run Try.prog w = .ok (.enter F args) w := by exact fun F h => absurd h (show ¬ (false = true) from Bool.false_ne_true)) : ACalls Try.prog 44 args h K :=
  acalls_of_run (tiOf_ok _) hsp follows Try.func44 b44 (rs := Try.f44.results.toList) (Array.toArray_toList).symm (by kernel_rfl) (by kernel_rfl) c44_ok (by kernel_rfl) hl hk0 htn hrf hkn hrun
theorem in44 : ∀ args w, (callFunc 44 args).run Try.prog w = .ok (.enter 44 args) w := callFunc_enter Try.func44 (by kernel_rfl) (by kernel_rfl)

/-- slices.Concat[[]byte,byte] -/
def N45 : Nat := 36
def mu45 : List Nat := []
def keep45 : List Nat := [0, 2, 3, 5, 6, 8, 9, 10, 11, 12, 20, 25, 26, 27, 28]
def res45 : List RV := [(.t 2)]
def c45 : CC :=
 (.seq (.reg [⟨(some 2), (.mov (.c (.sl true 0 0 (.agg []) true))), none, 2⟩]
 [])
 (.seq (.reg [⟨(some 3), (.mov (.c (.int 0))), none, 2⟩]
 [])
 (.seq (.seq (.reg [⟨(some 9), (.mov (.t 0)), none, 2⟩, ⟨(some 10), (.len false (.t 9)), none, 2⟩, ⟨(some 11), (.mov (.c (.int 0))), none, 2⟩]
 [])
 (.block 0 (.loop (.seq (.reg [⟨(some 12), (.bin .lss (.t 11) (.t 10)), none, 2⟩]
 [])
 (.seq (.cond (.t 12)
 .skip
 (.exit 0))
 (.seq (.block 1 (.seq (.reg [⟨(some 13), (.iadS 1 (.t 9) (.t 11)), none, 2⟩, ⟨(some 14), (.load none (.t 13)), none, 2⟩, ⟨(some 5), (.mov (.t 14)), none, 2⟩]
 [])
 (.seq (.reg [⟨(some 15), (.mov (.t 3)), none, 2⟩, ⟨(some 16), (.mov (.t 5)), none, 2⟩, ⟨(some 17), (.len false (.t 16)), none, 2⟩, ⟨(some 18), (.bin .add (.t 15) (.t 17)), none, 2⟩, ⟨(some 3), (.mov (.t 18)), none, 2⟩]
 [])
 (.seq (.reg [⟨(some 19), (.mov (.t 3)), none, 2⟩, ⟨(some 20), (.bin .lss (.t 19) (.c (.int 0))), none, 2⟩]
 [])
 (.cond (.t 20)
 (.reg [⟨(some 21), (.mki 9 (.c (.str [108, 101, 110, 32, 111, 117, 116, 32, 111, 102, 32, 114, 97, 110, 103, 101]))), none, 2⟩, ⟨none, .bad, none, 2⟩]
 [])
 .skip)))))
 (.reg [⟨(some 22), (.bin .add (.t 11) (.c (.int 1))), none, 2⟩, ⟨(some 11), (.mov (.t 22)), none, 2⟩]
 [])))))))
 (.seq (.reg [⟨(some 23), (.mov (.t 3)), none, 2⟩, ⟨(some 24), (.call (.c (.fn 78 [])) [(.c (.sl true 0 0 (.agg []) true)), (.t 23)]), none, 2⟩, ⟨(some 6), (.mov (.t 24)), none, 2⟩]
 [])
 (.seq (.seq (.reg [⟨(some 25), (.mov (.t 0)), none, 2⟩, ⟨(some 26), (.len false (.t 25)), none, 2⟩, ⟨(some 27), (.mov (.c (.int 0))), none, 2⟩]
 [])
 (.block 2 (.loop (.seq (.reg [⟨(some 28), (.bin .lss (.t 27) (.t 26)), none, 2⟩]
 [])
 (.seq (.cond (.t 28)
 .skip
 (.exit 2))
 (.seq (.block 3 (.seq (.reg [⟨(some 29), (.iadS 1 (.t 25) (.t 27)), none, 2⟩, ⟨(some 30), (.load none (.t 29)), none, 2⟩, ⟨(some 8), (.mov (.t 30)), none, 2⟩]
 [])
 (.reg [⟨(some 31), (.mov (.t 6)), none, 2⟩, ⟨(some 32), (.mov (.t 8)), none, 2⟩, ⟨(some 33), (.app true 1 1 (.t 31) (.t 32)), none, 2⟩, ⟨(some 6), (.mov (.t 33)), none, 2⟩]
 [])))
 (.reg [⟨(some 34), (.bin .add (.t 27) (.c (.int 1))), none, 2⟩, ⟨(some 27), (.mov (.t 34)), none, 2⟩]
 [])))))))
 (.seq (.reg [⟨(some 35), (.mov (.t 6)), none, 2⟩, ⟨(some 2), (.mov (.t 35)), none, 2⟩]
 [])
 .ret))))))
theorem c45_ok : comp (tiOf Try.prog) mu45 [19, 21, 22, 25, 34, 38, 41, 42, 43, 46, 50, 56, 57, 58, 59, 62, 63, 65, 66, 71, 72, 73, 74, 75, 76] N45 (Try.f45.body.getD .skip) = c45 := by kernel_rfl
theorem b45 : Try.f45.body = some (Try.f45.body.getD .skip) := by kernel_rfl
theorem run45 {Γ : G} (hsp : SpOK Try.prog Γ.sp) {args : List AV} {h : List AO} {own : Bool} {kn : Nat} {K : AV → List AO → Prop} (hl : args.length ≤ N45) (hk0 : Γ.k0 = hlen h) (hkn : hlen h ≤ kn)
    (hrun : run Γ c45 (leafK Γ.sp res45 own kn K) [] (leafK Γ.sp res45 own kn K) (argS 0 args) h) (htn : Γ.tn ≤ N45 := by exact Nat.zero_le _)
    (hrf : ∀ F, rfind Γ.rf F = true → FdIter Try.prog F ∧ ∀ args w, (callFunc F args).run Try.prog w = .ok (.enter F args) w := by exact fun F h => absurd h (show ¬ (false = true) from Bool.false_ne_true)) : ACalls Try.prog 45 args h K :=
  acalls_of_run (tiOf_ok _) hsp follows Try.func45 b45 (rs := Try.f45.results.toList) (Array.toArray_toList).symm (by kernel_rfl) (by kernel_rfl) c45_ok (by kernel_rfl) hl hk0 htn hrf hkn hrun
theorem in45 : ∀ args w, (callFunc 45 args).run Try.prog w = .ok (.enter 45 args) w := callFunc_enter Try.func45 (by kernel_rfl) (by kernel_rfl)

/-- sentinel/sentinelref5.there -/
def N46 : Nat := 63
def mu46 : List Nat := []
def keep46 : List Nat := [0, 1, 2, 3, 4, 5, 50, 56]
def res46 : List RV := [(.t 2)]
def c46 : CC :=
 (.seq (.reg [⟨(some 1), (.box (.t 0)), none, 2⟩, ⟨(some 2), (.mov (.c (.int 0))), none, 2⟩]
 [])
 (.seq (.reg [⟨(some 6), (.fad 1 (.t 1)), none, 0⟩, ⟨(some 7), (.load none (.t 6)), none, 1⟩, ⟨(some 8), (.eq true .sc (.t 7) (.c (.int 0))), none, 0⟩, ⟨(some 9), (.fad 4 (.t 1)), none, 0⟩, ⟨(some 10), (.load none (.t 9)), none, 1⟩, ⟨(some 11), (.eq true .sc (.t 10) (.c (.str []))), none, 0⟩, ⟨(some 12), (.fad 5 (.t 1)), none, 0⟩, ⟨(some 13), (.load (some 8) (.t 12)), none, 1⟩, ⟨(some 14), (.build [(.u32 0), (.u32 0), (.u32 0), (.u32 0), (.u32 0), (.u32 0), (.u32 0), (.u32 0)] []), none, 0⟩, ⟨(some 15), (.eq true (.arr 8) (.t 13) (.t 14)), none, 0⟩, ⟨(some 16), (.fad 13 (.t 1)), none, 0⟩, ⟨(some 17), (.load (some 8) (.t 16)), none, 1⟩, ⟨(some 18), (.build [(.u32 0), (.u32 0), (.u32 0), (.u32 0), (.u32 0), (.u32 0), (.u32 0), (.u32 0)] []), none, 0⟩, ⟨(some 19), (.eq true (.arr 8) (.t 17) (.t 18)), none, 0⟩, ⟨(some 20), (.fad 21 (.t 1)), none, 0⟩, ⟨(some 21), (.load none (.t 20)), none, 1⟩, ⟨(some 22), (.len false (.t 21)), none, 0⟩, ⟨(some 23), (.bin .gtr (.t 22) (.c (.int 0))), none, 0⟩, ⟨(some 24), (.fad 22 (.t 1)), none, 0⟩, ⟨(some 25), (.load none (.t 24)), none, 1⟩, ⟨(some 26), (.len false (.t 25)), none, 0⟩, ⟨(some 27), (.bin .gtr (.t 26) (.c (.int 0))), none, 0⟩, ⟨(some 28), (.fad 23 (.t 1)), none, 0⟩, ⟨(some 29), (.load none (.t 28)), none, 1⟩, ⟨(some 30), (.len false (.t 29)), none, 0⟩, ⟨(some 31), (.bin .gtr (.t 30) (.c (.int 0))), none, 0⟩, ⟨(some 32), (.fad 24 (.t 1)), none, 0⟩, ⟨(some 33), (.load none (.t 32)), none, 1⟩, ⟨(some 34), (.len false (.t 33)), none, 0⟩, ⟨(some 35), (.bin .gtr (.t 34) (.c (.int 0))), none, 0⟩, ⟨(some 36), (.fad 25 (.t 1)), none, 0⟩, ⟨(some 37), (.load none (.t 36)), none, 1⟩, ⟨(some 38), (.len false (.t 37)), none, 0⟩, ⟨(some 39), (.bin .gtr (.t 38) (.c (.int 0))), none, 0⟩, ⟨(some 40), (.fad 2 (.t 1)), none, 0⟩, ⟨(some 41), (.load none (.t 40)), none, 1⟩, ⟨(some 42), (.eq true .sc (.t 41) (.c (.int 0))), none, 0⟩, ⟨(some 43), (.fad 3 (.t 1)), none, 0⟩, ⟨(some 44), (.load none (.t 43)), none, 1⟩, ⟨(some 45), (.eq true .sc (.t 44) (.c (.int 0))), none, 0⟩, ⟨(some 46), (.bsl false .other 1 12 [(.bool false)] [(0, (1, (.c (.bool false)))), (1, (1, (.t 8))), (2, (1, (.t 11))), (3, (1, (.t 15))), (4, (1, (.t 19))), (5, (1, (.t 23))), (6, (1, (.t 27))), (7, (1, (.t 31))), (8, (1, (.t 35))), (9, (1, (.t 39))), (10, (1, (.t 42))), (11, (1, (.t 45)))]), none, 0⟩, ⟨(some 3), (.mov (.t 46)), none, 0⟩]
 [])
 (.seq (.reg [⟨(some 4), (.mov (.c (.int 0))), none, 2⟩]
 [])
 (.seq (.seq (.reg [⟨(some 5), (.mov (.c (.int 0))), none, 2⟩]
 [])
 (.block 0 (.loop (.seq (.seq (.reg [⟨(some 47), (.mov (.t 5)), none, 2⟩, ⟨(some 48), (.mov (.t 3)), none, 2⟩, ⟨(some 49), (.len false (.t 48)), none, 2⟩, ⟨(some 50), (.bin .lss (.t 47) (.t 49)), none, 2⟩]
 [])
 (.cond (.t 50)
 .skip
 (.exit 0)))
 (.seq (.block 1 (.seq (.reg [⟨(some 53), (.mov (.t 3)), none, 2⟩, ⟨(some 54), (.mov (.t 5)), none, 2⟩, ⟨(some 55), (.iadS 1 (.t 53) (.t 54)), none, 2⟩, ⟨(some 56), (.load none (.t 55)), none, 2⟩]
 [])
 (.cond (.t 56)
 (.reg [⟨(some 57), (.mov (.t 4)), none, 2⟩, ⟨(some 58), (.mov (.t 5)), none, 2⟩, ⟨(some 59), (.conv .iu64 (.t 58)), none, 2⟩, ⟨(some 60), (.bin .shl (.c (.int 1)) (.t 59)), none, 2⟩, ⟨(some 61), (.bin .or (.t 57) (.t 60)), none, 2⟩, ⟨(some 4), (.mov (.t 61)), none, 2⟩]
 [])
 .skip)))
 (.reg [⟨(some 51), (.mov (.t 5)), none, 2⟩, ⟨(some 52), (.bin .add (.t 51) (.c (.int 1))), none, 2⟩, ⟨(some 5), (.mov (.t 52)), none, 2⟩]
 []))))))
 (.seq (.reg [⟨(some 62), (.mov (.t 4)), none, 2⟩, ⟨(some 2), (.mov (.t 62)), none, 2⟩]
 [])
 .ret)))))
theorem c46_ok : comp (tiOf Try.prog) mu46 [19, 21, 22, 25, 34, 38, 41, 42, 43, 46, 50, 56, 57, 58, 59, 62, 63, 65, 66, 71, 72, 73, 74, 75, 76] N46 (Try.f46.body.getD .skip) = c46 := by kernel_rfl
theorem b46 : Try.f46.body = some (Try.f46.body.getD .skip) := by kernel_rfl
theorem run46 {Γ : G} (hsp : SpOK Try.prog Γ.sp) {args : List AV} {h : List AO} {own : Bool} {kn : Nat} {K : AV → List AO → Prop} (hl : args.length ≤ N46) (hk0 : Γ.k0 = hlen h) (hkn : hlen h ≤ kn)
    (hrun : run Γ c46 (leafK Γ.sp res46 own kn K) [] (leafK Γ.sp res46 own kn K) (argS 0 args) h) (htn : Γ.tn ≤ N46 := by exact Nat.zero_le _)
    (hrf : ∀ F, rfind Γ.rf F = true → FdIter Try.prog F ∧ ∀ args w, (callFunc F args).run Try.prog w = .ok (.enter F args) w := by exact fun F h => absurd h (show ¬ (false = true) from Bool.false_ne_true)) : ACalls Try.prog 46 args h K :=
  acalls_of_run (tiOf_ok _) hsp follows Try.func46 b46 (rs := Try.f46.results.toList) (Array.toArray_toList).symm (by kernel_rfl) (by kernel_rfl) c46_ok (by kernel_rfl) hl hk0 htn hrf hkn hrun
theorem in46 : ∀ args w, (callFunc 46 args).run Try.prog w = .ok (.enter 46 args) w := callFunc_enter Try.func46 (by kernel_rfl) (by kernel_rfl)

/-- sentinel/sentinelref5.field -/
def N47 : Nat := 17
def mu47 : List Nat := []
def keep47 : List Nat := [0, 1, 2, 6]
def res47 : List RV := [(.t 6)]
def c47 : CC :=
 (.seq (.reg [⟨(some 6), (.mov (.c (.sl true 0 0 (.agg []) true))), none, 2⟩]
 [])
 (.seq (.reg [⟨(some 7), (.mov (.t 0)), none, 2⟩, ⟨(some 8), (.mov (.t 1)), none, 2⟩, ⟨(some 9), (.conv .iu8 (.t 8)), none, 2⟩, ⟨(some 10), (.mov (.t 2)), none, 2⟩, ⟨(some 11), (.len false (.t 10)), none, 2⟩, ⟨(some 12), (.conv .iu8 (.t 11)), none, 2⟩, ⟨(some 13), (.bsl false .u8 1 2 [(.u8 0)] [(0, (1, (.t 9))), (1, (1, (.t 12)))]), none, 2⟩, ⟨(some 14), (.app true 1 1 (.t 7) (.t 13)), none, 2⟩, ⟨(some 15), (.mov (.t 2)), none, 2⟩, ⟨(some 16), (.app true 1 1 (.t 14) (.t 15)), none, 2⟩, ⟨(some 6), (.mov (.t 16)), none, 2⟩]
 [])
 .ret))
theorem c47_ok : comp (tiOf Try.prog) mu47 [19, 21, 22, 25, 34, 38, 41, 42, 43, 46, 50, 56, 57, 58, 59, 62, 63, 65, 66, 71, 72, 73, 74, 75, 76] N47 (Try.f47.body.getD .skip) = c47 := by kernel_rfl
theorem b47 : Try.f47.body = some (Try.f47.body.getD .skip) := by kernel_rfl
theorem run47 {Γ : G} (hsp : SpOK Try.prog Γ.sp) {args : List AV} {h : List AO} {own : Bool} {kn : Nat} {K : AV → List AO → Prop} (hl : args.length ≤ N47) (hk0 : Γ.k0 = hlen h) (hkn : hlen h ≤ kn)
    (hrun : run Γ c47 (leafK Γ.sp res47 own kn K) [] (leafK Γ.sp res47 own kn K) (argS 0 args) h) (htn : Γ.tn ≤ N47 := by exact Nat.zero_le _)
    (hrf : ∀ F, rfind Γ.rf F = true → FdIter Try.prog F ∧ ∀ args w, (callFunc F args).run Try.prog w = .ok (.enter F args) w := by exact fun F h => absurd h (show ¬ (false = true) from Bool.false_ne_true)) : ACalls Try.prog 47 args h K :=
  acalls_of_run (tiOf_ok _) hsp follows Try.func47 b47 (rs := Try.f47.results.toList) (Array.toArray_toList).symm (by kernel_rfl) (by kernel_rfl) c47_ok (by kernel_rfl) hl hk0 htn hrf hkn hrun
theorem in47 : ∀ args w, (callFunc 47 args).run Try.prog w = .ok (.enter 47 args) w := callFunc_enter Try.func47 (by kernel_rfl) (by kernel_rfl)

/-- sentinel/sentinelref5.bytes -/
def N48 : Nat := 56
def mu48 : List Nat := []
def keep48 : List Nat := [0, 1, 2, 4, 5, 6, 12, 17, 22, 27, 31, 35, 39, 43, 47]
def res48 : List RV := [(.t 4)]
def c48 : CC :=
 (.seq (.reg [⟨(some 2), (.box (.t 0)), none, 2⟩, ⟨(some 4), (.mov (.c (.sl true 0 0 (.agg []) true))), none, 2⟩]
 [])
 (.seq (.seq (.reg [⟨(some 5), (.mov (.t 1)), none, 2⟩]
 [])
 (.block 0 (.seq (.reg [⟨(some 7), (.eq false .sc (.t 5) (.c (.int 1))), none, 2⟩, ⟨(some 6), (.mov (.t 7)), none, 2⟩]
 [])
 (.cond (.t 6)
 (.seq (.reg [⟨(some 8), (.fad 1 (.t 2)), none, 2⟩, ⟨(some 9), (.load none (.t 8)), none, 2⟩, ⟨(some 10), (.conv .iu8 (.t 9)), none, 2⟩, ⟨(some 11), (.bsl false .u8 1 1 [(.u8 0)] [(0, (1, (.t 10)))]), none, 2⟩, ⟨(some 4), (.mov (.t 11)), none, 2⟩]
 [])
 .ret)
 (.seq (.reg [⟨(some 13), (.eq false .sc (.t 5) (.c (.int 2))), none, 2⟩, ⟨(some 12), (.mov (.t 13)), none, 2⟩]
 [])
 (.cond (.t 12)
 (.seq (.reg [⟨(some 14), (.fad 4 (.t 2)), none, 2⟩, ⟨(some 15), (.load none (.t 14)), none, 2⟩, ⟨(some 16), (.conv (.strb false) (.t 15)), none, 2⟩, ⟨(some 4), (.mov (.t 16)), none, 2⟩]
 [])
 .ret)
 (.seq (.reg [⟨(some 18), (.eq false .sc (.t 5) (.c (.int 3))), none, 2⟩, ⟨(some 17), (.mov (.t 18)), none, 2⟩]
 [])
 (.cond (.t 17)
 (.seq (.reg [⟨(some 19), (.fad 5 (.t 2)), none, 2⟩, ⟨(some 20), (.load (some 8) (.t 19)), none, 2⟩, ⟨(some 21), (.call (.c (.fn 65 [])) [(.t 20)]), none, 2⟩, ⟨(some 4), (.mov (.t 21)), none, 2⟩]
 [])
 .ret)
 (.seq (.reg [⟨(some 23), (.eq false .sc (.t 5) (.c (.int 4))), none, 2⟩, ⟨(some 22), (.mov (.t 23)), none, 2⟩]
 [])
 (.cond (.t 22)
 (.seq (.reg [⟨(some 24), (.fad 13 (.t 2)), none, 2⟩, ⟨(some 25), (.load (some 8) (.t 24)), none, 2⟩, ⟨(some 26), (.call (.c (.fn 65 [])) [(.t 25)]), none, 2⟩, ⟨(some 4), (.mov (.t 26)), none, 2⟩]
 [])
 .ret)
 (.seq (.reg [⟨(some 28), (.eq false .sc (.t 5) (.c (.int 5))), none, 2⟩, ⟨(some 27), (.mov (.t 28)), none, 2⟩]
 [])
 (.cond (.t 27)
 (.seq (.reg [⟨(some 29), (.fad 21 (.t 2)), none, 2⟩, ⟨(some 30), (.load none (.t 29)), none, 2⟩, ⟨(some 4), (.mov (.t 30)), none, 2⟩]
 [])
 .ret)
 (.seq (.reg [⟨(some 32), (.eq false .sc (.t 5) (.c (.int 6))), none, 2⟩, ⟨(some 31), (.mov (.t 32)), none, 2⟩]
 [])
 (.cond (.t 31)
 (.seq (.reg [⟨(some 33), (.fad 22 (.t 2)), none, 2⟩, ⟨(some 34), (.load none (.t 33)), none, 2⟩, ⟨(some 4), (.mov (.t 34)), none, 2⟩]
 [])
 .ret)
 (.seq (.reg [⟨(some 36), (.eq false .sc (.t 5) (.c (.int 7))), none, 2⟩, ⟨(some 35), (.mov (.t 36)), none, 2⟩]
 [])
 (.cond (.t 35)
 (.seq (.reg [⟨(some 37), (.fad 23 (.t 2)), none, 2⟩, ⟨(some 38), (.load none (.t 37)), none, 2⟩, ⟨(some 4), (.mov (.t 38)), none, 2⟩]
 [])
 .ret)
 (.seq (.reg [⟨(some 40), (.eq false .sc (.t 5) (.c (.int 8))), none, 2⟩, ⟨(some 39), (.mov (.t 40)), none, 2⟩]
 [])
 (.cond (.t 39)
 (.seq (.reg [⟨(some 41), (.fad 24 (.t 2)), none, 2⟩, ⟨(some 42), (.load none (.t 41)), none, 2⟩, ⟨(some 4), (.mov (.t 42)), none, 2⟩]
 [])
 .ret)
 (.seq (.reg [⟨(some 44), (.eq false .sc (.t 5) (.c (.int 9))), none, 2⟩, ⟨(some 43), (.mov (.t 44)), none, 2⟩]
 [])
 (.cond (.t 43)
 (.seq (.reg [⟨(some 45), (.fad 25 (.t 2)), none, 2⟩, ⟨(some 46), (.load none (.t 45)), none, 2⟩, ⟨(some 4), (.mov (.t 46)), none, 2⟩]
 [])
 .ret)
 (.seq (.reg [⟨(some 48), (.eq false .sc (.t 5) (.c (.int 10))), none, 2⟩, ⟨(some 47), (.mov (.t 48)), none, 2⟩]
 [])
 (.cond (.t 47)
 (.seq (.reg [⟨(some 49), (.fad 2 (.t 2)), none, 2⟩, ⟨(some 50), (.load none (.t 49)), none, 2⟩, ⟨(some 51), (.call (.c (.fn 66 [])) [(.t 50)]), none, 2⟩, ⟨(some 4), (.mov (.t 51)), none, 2⟩]
 [])
 .ret)
 .skip))))))))))))))))))))))
 (.seq (.reg [⟨(some 52), (.fad 3 (.t 2)), none, 2⟩, ⟨(some 53), (.load none (.t 52)), none, 2⟩, ⟨(some 54), (.conv .iu8 (.t 53)), none, 2⟩, ⟨(some 55), (.bsl false .u8 1 1 [(.u8 0)] [(0, (1, (.t 54)))]), none, 2⟩, ⟨(some 4), (.mov (.t 55)), none, 2⟩]
 [])
 .ret)))
theorem c48_ok : comp (tiOf Try.prog) mu48 [19, 21, 22, 25, 34, 38, 41, 42, 43, 46, 50, 56, 57, 58, 59, 62, 63, 65, 66, 71, 72, 73, 74, 75, 76] N48 (Try.f48.body.getD .skip) = c48 := by kernel_rfl
theorem b48 : Try.f48.body = some (Try.f48.body.getD .skip) := by kernel_rfl
theorem run48 {Γ : G} (hsp : SpOK Try.prog Γ.sp) {args : List AV} {h : List AO} {own : Bool} {kn : Nat} {K : AV → List AO → Prop} (hl : args.length ≤ N48) (hk0 : Γ.k0 = hlen h) (hkn : hlen h ≤ kn)
    (hrun : run Γ c48 (leafK Γ.sp res48 own kn K) [] (leafK Γ.sp res48 own kn K) (argS 0 args) h) (htn : Γ.tn ≤ N48 := by exact Nat.zero_le _)
    (hrf : ∀ F, rfind Γ.rf F = true → FdIter Try.prog F ∧ ∀ args w, (callFunc F args).run Try.prog w = .ok (.enter F args) w := by exact fun F h => absurd h (show ¬ (false = true) from Bool.false_ne_true)) : ACalls Try.prog 48 args h K :=
  acalls_of_run (tiOf_ok _) hsp follows Try.func48 b48 (rs := Try.f48.results.toList) (Array.toArray_toList).symm (by kernel_rfl) (by kernel_rfl) c48_ok (by kernel_rfl) hl hk0 htn hrf hkn hrun
theorem in48 : ∀ args w, (callFunc 48 args).run Try.prog w = .ok (.enter 48 args) w := callFunc_enter Try.func48 (by kernel_rfl) (by kernel_rfl)

/-- sentinel/wire.wants -/
def N49 : Nat := 47
def mu49 : List Nat := []
def keep49 : List Nat := [0, 1, 2, 3, 8, 9, 11, 14, 16, 19, 22, 27, 30, 33, 36, 40, 44]
def res49 : List RV := [(.t 2)]
def c49 : CC :=
 (.seq (.reg [⟨(some 1), (.box (.t 0)), none, 2⟩, ⟨(some 2), (.mov (.c (.sl true 0 0 (.agg []) true))), none, 2⟩]
 [])
 (.seq (.reg [⟨(some 4), (.fad 1 (.t 1)), none, 2⟩, ⟨(some 5), (.load none (.t 4)), none, 2⟩, ⟨(some 6), (.eq false .sc (.t 5) (.c (.int 2))), none, 2⟩, ⟨(some 3), (.mov (.t 6)), none, 2⟩]
 [])
 (.seq (.seq (.reg [⟨(some 7), (.fad 0 (.t 1)), none, 2⟩, ⟨(some 8), (.load none (.t 7)), none, 2⟩]
 [])
 (.block 0 (.seq (.reg [⟨(some 10), (.eq false .sc (.t 8) (.c (.int 1))), none, 2⟩, ⟨(some 9), (.mov (.t 10)), none, 2⟩]
 [])
 (.cond (.t 9)
 (.seq (.seq (.reg [⟨(some 11), (.mov (.t 3)), none, 2⟩]
 [])
 (.cond (.t 11)
 (.seq (.reg [⟨(some 12), (.bsl false .int 1 4 [(.int 0)] [(0, (1, (.c (.int 1)))), (1, (1, (.c (.int 2)))), (2, (1, (.c (.int 3)))), (3, (1, (.c (.int 4))))]), none, 2⟩, ⟨(some 2), (.mov (.t 12)), none, 2⟩]
 [])
 .ret)
 .skip))
 (.seq (.reg [⟨(some 13), (.bsl false .int 1 3 [(.int 0)] [(0, (1, (.c (.int 1)))), (1, (1, (.c (.int 2)))), (2, (1, (.c (.int 3))))]), none, 2⟩, ⟨(some 2), (.mov (.t 13)), none, 2⟩]
 [])
 .ret))
 (.seq (.reg [⟨(some 15), (.eq false .sc (.t 8) (.c (.int 2))), none, 2⟩, ⟨(some 14), (.mov (.t 15)), none, 2⟩]
 [])
 (.cond (.t 14)
 (.seq (.seq (.reg [⟨(some 16), (.mov (.t 3)), none, 2⟩]
 [])
 (.cond (.t 16)
 (.seq (.reg [⟨(some 17), (.bsl false .int 1 4 [(.int 0)] [(0, (1, (.c (.int 1)))), (1, (1, (.c (.int 3)))), (2, (1, (.c (.int 4)))), (3, (1, (.c (.int 6))))]), none, 2⟩, ⟨(some 2), (.mov (.t 17)), none, 2⟩]
 [])
 .ret)
 .skip))
 (.seq (.reg [⟨(some 18), (.bsl false .int 1 3 [(.int 0)] [(0, (1, (.c (.int 1)))), (1, (1, (.c (.int 4)))), (2, (1, (.c (.int 5))))]), none, 2⟩, ⟨(some 2), (.mov (.t 18)), none, 2⟩]
 [])
 .ret))
 (.seq (.reg [⟨(some 20), (.eq false .sc (.t 8) (.c (.int 3))), none, 2⟩, ⟨(some 19), (.mov (.t 20)), none, 2⟩]
 [])
 (.cond (.t 19)
 (.seq (.reg [⟨(some 21), (.bsl false .int 1 1 [(.int 0)] [(0, (1, (.c (.int 7))))]), none, 2⟩, ⟨(some 2), (.mov (.t 21)), none, 2⟩]
 [])
 .ret)
 (.seq (.reg [⟨(some 23), (.eq false .sc (.t 8) (.c (.int 4))), none, 2⟩, ⟨(some 22), (.mov (.t 23)), none, 2⟩]
 [])
 (.cond (.t 22)
 (.seq (.seq (.reg [⟨(some 24), (.fad 23 (.t 1)), none, 2⟩, ⟨(some 25), (.load none (.t 24)), none, 2⟩, ⟨(some 26), (.len false (.t 25)), none, 2⟩, ⟨(some 27), (.bin .gtr (.t 26) (.c (.int 0))), none, 2⟩]
 [])
 (.cond (.t 27)
 (.seq (.reg [⟨(some 28), (.bsl false .int 1 2 [(.int 0)] [(0, (1, (.c (.int 7)))), (1, (1, (.c (.int 8))))]), none, 2⟩, ⟨(some 2), (.mov (.t 28)), none, 2⟩]
 [])
 .ret)
 .skip))
 (.seq (.reg [⟨(some 29), (.bsl false .int 1 1 [(.int 0)] [(0, (1, (.c (.int 8))))]), none, 2⟩, ⟨(some 2), (.mov (.t 29)), none, 2⟩]
 [])
 .ret))
 (.seq (.reg [⟨(some 31), (.eq false .sc (.t 8) (.c (.int 5))), none, 2⟩, ⟨(some 30), (.mov (.t 31)), none, 2⟩]
 [])
 (.cond (.t 30)
 (.seq (.reg [⟨(some 32), (.bsl false .int 1 1 [(.int 0)] [(0, (1, (.c (.int 11))))]), none, 2⟩, ⟨(some 2), (.mov (.t 32)), none, 2⟩]
 [])
 .ret)
 (.seq (.reg [⟨(some 34), (.eq false .sc (.t 8) (.c (.int 6))), none, 2⟩, ⟨(some 33), (.mov (.t 34)), none, 2⟩]
 [])
 (.cond (.t 33)
 (.seq (.reg [⟨(some 35), (.bsl false .int 1 3 [(.int 0)] [(0, (1, (.c (.int 1)))), (1, (1, (.c (.int 2)))), (2, (1, (.c (.int 9))))]), none, 2⟩, ⟨(some 2), (.mov (.t 35)), none, 2⟩]
 [])
 .ret)
 (.seq (.seq (.reg [⟨(some 37), (.eq false .sc (.t 8) (.c (.int 8))), none, 2⟩, ⟨(some 36), (.mov (.t 37)), none, 2⟩]
 [])
 (.cond (.t 36)
 .skip
 (.reg [⟨(some 38), (.eq false .sc (.t 8) (.c (.int 12))), none, 2⟩, ⟨(some 36), (.mov (.t 38)), none, 2⟩]
 [])))
 (.cond (.t 36)
 (.seq (.reg [⟨(some 39), (.bsl false .int 1 2 [(.int 0)] [(0, (1, (.c (.int 8)))), (1, (1, (.c (.int 10))))]), none, 2⟩, ⟨(some 2), (.mov (.t 39)), none, 2⟩]
 [])
 .ret)
 (.seq (.seq (.reg [⟨(some 41), (.eq false .sc (.t 8) (.c (.int 9))), none, 2⟩, ⟨(some 40), (.mov (.t 41)), none, 2⟩]
 [])
 (.cond (.t 40)
 .skip
 (.reg [⟨(some 42), (.eq false .sc (.t 8) (.c (.int 10))), none, 2⟩, ⟨(some 40), (.mov (.t 42)), none, 2⟩]
 [])))
 (.cond (.t 40)
 (.seq (.reg [⟨(some 43), (.bsl false .int 1 1 [(.int 0)] [(0, (1, (.c (.int 8))))]), none, 2⟩, ⟨(some 2), (.mov (.t 43)), none, 2⟩]
 [])
 .ret)
 (.seq (.reg [⟨(some 45), (.eq false .sc (.t 8) (.c (.int 11))), none, 2⟩, ⟨(some 44), (.mov (.t 45)), none, 2⟩]
 [])
 (.cond (.t 44)
 (.seq (.reg [⟨(some 46), (.bsl false .int 1 3 [(.int 0)] [(0, (1, (.c (.int 1)))), (1, (1, (.c (.int 8)))), (2, (1, (.c (.int 9))))]), none, 2⟩, ⟨(some 2), (.mov (.t 46)), none, 2⟩]
 [])
 .ret)
 .skip))))))))))))))))))))
 (.seq (.reg [⟨(some 2), (.mov (.c (.sl true 0 0 (.agg []) true))), none, 2⟩]
 [])
 .ret))))
theorem c49_ok : comp (tiOf Try.prog) mu49 [19, 21, 22, 25, 34, 38, 41, 42, 43, 46, 50, 56, 57, 58, 59, 62, 63, 65, 66, 71, 72, 73, 74, 75, 76] N49 (Try.f49.body.getD .skip) = c49 := by kernel_rfl
theorem b49 : Try.f49.body = some (Try.f49.body.getD .skip) := by kernel_rfl
theorem run49 {Γ : G} (hsp : SpOK Try.prog Γ.sp) {args : List AV} {h : List AO} {own : Bool} {kn : Nat} {K : AV → List AO → Prop} (hl : args.length ≤ N49) (hk0 : Γ.k0 = hlen h) (hkn : hlen h ≤ kn)
    (hrun : run Γ c49 (leafK Γ.sp res49 own kn K) [] (leafK Γ.sp res49 own kn K) (argS 0 args) h) (htn : Γ.tn ≤ N49 := by exact Nat.zero_le _)
    (hrf : ∀ F, rfind Γ.rf F = true → FdIter Try.prog F ∧ ∀ args w, (callFunc F args).run Try.prog w = .ok (.enter F args) w := by exact fun F h => absurd h (show ¬ (false = true) from Bool.false_ne_true)) : ACalls Try.prog 49 args h K :=
  acalls_of_run (tiOf_ok _) hsp follows Try.func49 b49 (rs := Try.f49.results.toList) (Array.toArray_toList).symm (by kernel_rfl) (by kernel_rfl) c49_ok (by kernel_rfl) hl hk0 htn hrf hkn hrun
theorem in49 : ∀ args w, (callFunc 49 args).run Try.prog w = .ok (.enter 49 args) w := callFunc_enter Try.func49 (by kernel_rfl) (by kernel_rfl)

/-- slices.Contains[[]int,int] -/
def N50 : Nat := 9
def mu50 : List Nat := []
def keep50 : List Nat := [0, 1, 4]
def res50 : List RV := [(.t 4)]
def c50 : CC :=
 (.seq (.reg [⟨(some 4), (.mov (.c (.bool false))), none, 2⟩]
 [])
 (.seq (.reg [⟨(some 5), (.mov (.t 0)), none, 2⟩, ⟨(some 6), (.mov (.t 1)), none, 2⟩, ⟨(some 7), (.call (.c (.fn 79 [])) [(.t 5), (.t 6)]), none, 2⟩, ⟨(some 8), (.bin .geq (.t 7) (.c (.int 0))), none, 2⟩, ⟨(some 4), (.mov (.t 8)), none, 2⟩]
 [])
 .ret))
theorem c50_ok : comp (tiOf Try.prog) mu50 [19, 21, 22, 25, 34, 38, 41, 42, 43, 46, 50, 56, 57, 58, 59, 62, 63, 65, 66, 71, 72, 73, 74, 75, 76] N50 (Try.f50.body.getD .skip) = c50 := by kernel_rfl
theorem b50 : Try.f50.body = some (Try.f50.body.getD .skip) := by kernel_rfl
theorem run50 {Γ : G} (hsp : SpOK Try.prog Γ.sp) {args : List AV} {h : List AO} {own : Bool} {kn : Nat} {K : AV → List AO → Prop} (hl : args.length ≤ N50) (hk0 : Γ.k0 = hlen h) (hkn : hlen h ≤ kn)
    (hrun : run Γ c50 (leafK Γ.sp res50 own kn K) [] (leafK Γ.sp res50 own kn K) (argS 0 args) h) (htn : Γ.tn ≤ N50 := by exact Nat.zero_le _)
    (hrf : ∀ F, rfind Γ.rf F = true → FdIter Try.prog F ∧ ∀ args w, (callFunc F args).run Try.prog w = .ok (.enter F args) w := by exact fun F h => absurd h (show ¬ (false = true) from Bool.false_ne_true)) : ACalls Try.prog 50 args h K :=
  acalls_of_run (tiOf_ok _) hsp follows Try.func50 b50 (rs := Try.f50.results.toList) (Array.toArray_toList).symm (by kernel_rfl) (by kernel_rfl) c50_ok (by kernel_rfl) hl hk0 htn hrf hkn hrun
theorem in50 : ∀ args w, (callFunc 50 args).run Try.prog w = .ok (.enter 50 args) w := callFunc_enter Try.func50 (by kernel_rfl) (by kernel_rfl)

/-- (*sentinel/wire.reader).take -/
def N51 : Nat := 40
def mu51 : List Nat := []
def keep51 : List Nat := [0, 1, 4, 5, 16]
def res51 : List RV := [(.t 4)]
def c51 : CC :=
 (.seq (.reg [⟨(some 4), (.mov (.c (.sl true 0 0 (.agg []) true))), none, 2⟩]
 [])
 (.seq (.seq (.reg [⟨(some 6), (.mov (.t 1)), none, 2⟩, ⟨(some 7), (.bin .lss (.t 6) (.c (.int 0))), none, 2⟩, ⟨(some 8), (.mov (.t 7)), none, 2⟩, ⟨(some 9), (.mov (.t 1)), (some (8, false)), 2⟩, ⟨(some 10), (.mov (.t 0)), (some (8, false)), 2⟩, ⟨(some 11), (.nilck (.t 10)), (some (8, false)), 2⟩, ⟨(some 12), (.fad 0 (.t 11)), (some (8, false)), 2⟩, ⟨(some 13), (.load none (.t 12)), (some (8, false)), 2⟩, ⟨(some 14), (.len false (.t 13)), (some (8, false)), 2⟩, ⟨(some 15), (.bin .gtr (.t 9) (.t 14)), (some (8, false)), 2⟩, ⟨(some 16), (.pick (.t 8) (.c (.bool true)) (.t 15)), none, 2⟩]
 [])
 (.cond (.t 16)
 (.seq (.reg [⟨(some 17), (.mov (.t 0)), none, 2⟩, ⟨(some 18), (.mov (.t 0)), none, 2⟩, ⟨(some 19), (.nilck (.t 17)), none, 2⟩, ⟨(some 20), (.fad 0 (.t 19)), none, 2⟩, ⟨none, (.store none (.t 20) (.c (.sl true 0 0 (.agg []) true))), none, 2⟩, ⟨(some 21), (.nilck (.t 18)), none, 2⟩, ⟨(some 22), (.fad 1 (.t 21)), none, 2⟩, ⟨none, (.store none (.t 22) (.c (.bool true))), none, 2⟩]
 [])
 (.seq (.reg [⟨(some 4), (.mov (.c (.sl true 0 0 (.agg []) true))), none, 2⟩]
 [])
 .ret))
 .skip))
 (.seq (.reg [⟨(some 23), (.mov (.t 0)), none, 2⟩, ⟨(some 24), (.nilck (.t 23)), none, 2⟩, ⟨(some 25), (.fad 0 (.t 24)), none, 2⟩, ⟨(some 26), (.load none (.t 25)), none, 2⟩, ⟨(some 27), (.mov (.t 1)), none, 2⟩, ⟨(some 28), (.slcS 1 (.t 26) none (some (.t 27)) none), none, 2⟩, ⟨(some 5), (.mov (.t 28)), none, 2⟩]
 [])
 (.seq (.reg [⟨(some 29), (.mov (.t 0)), none, 2⟩, ⟨(some 30), (.mov (.t 0)), none, 2⟩, ⟨(some 31), (.nilck (.t 30)), none, 2⟩, ⟨(some 32), (.fad 0 (.t 31)), none, 2⟩, ⟨(some 33), (.load none (.t 32)), none, 2⟩, ⟨(some 34), (.mov (.t 1)), none, 2⟩, ⟨(some 35), (.slcS 1 (.t 33) (some (.t 34)) none none), none, 2⟩, ⟨(some 36), (.nilck (.t 29)), none, 2⟩, ⟨(some 37), (.fad 0 (.t 36)), none, 2⟩, ⟨none, (.store none (.t 37) (.t 35)), none, 2⟩]
 [])
 (.seq (.reg [⟨(some 38), (.mov (.t 5)), none, 2⟩, ⟨(some 39), (.call (.c (.fn 64 [])) [(.t 38)]), none, 2⟩, ⟨(some 4), (.mov (.t 39)), none, 2⟩]
 [])
 .ret)))))
theorem c51_ok : comp (tiOf Try.prog) mu51 [19, 21, 22, 25, 34, 38, 41, 42, 43, 46, 50, 56, 57, 58, 59, 62, 63, 65, 66, 71, 72, 73, 74, 75, 76] N51 (Try.f51.body.getD .skip) = c51 := by kernel_rfl
theorem b51 : Try.f51.body = some (Try.f51.body.getD .skip) := by kernel_rfl
theorem run51 {Γ : G} (hsp : SpOK Try.prog Γ.sp) {args : List AV} {h : List AO} {own : Bool} {kn : Nat} {K : AV → List AO → Prop} (hl : args.length ≤ N51) (hk0 : Γ.k0 = hlen h) (hkn : hlen h ≤ kn)
    (hrun : run Γ c51 (leafK Γ.sp res51 own kn K) [] (leafK Γ.sp res51 own kn K) (argS 0 args) h) (htn : Γ.tn ≤ N51 := by exact Nat.zero_le _)
    (hrf : ∀ F, rfind Γ.rf F = true → FdIter Try.prog F ∧ ∀ args w, (callFunc F args).run Try.prog w = .ok (.enter F args) w := by exact fun F h => absurd h (show ¬ (false = true) from Bool.false_ne_true)) : ACalls Try.prog 51 args h K :=
  acalls_of_run (tiOf_ok _) hsp follows Try.func51 b51 (rs := Try.f51.results.toList) (Array.toArray_toList).symm (by kernel_rfl) (by kernel_rfl) c51_ok (by kernel_rfl) hl hk0 htn hrf hkn hrun
theorem in51 : ∀ args w, (callFunc 51 args).run Try.prog w = .ok (.enter 51 args) w := callFunc_enter Try.func51 (by kernel_rfl) (by kernel_rfl)

/-- (*sentinel/wire.reader).number -/
def N52 : Nat := 18
def mu52 : List Nat := []
def keep52 : List Nat := [0, 1, 4, 5]
def res52 : List RV := [(.t 4)]
def c52 : CC :=
 (.seq (.reg [⟨(some 4), (.mov (.c (.int 0))), none, 2⟩]
 [])
 (.seq (.reg [⟨(some 6), (.mov (.t 0)), none, 2⟩, ⟨(some 7), (.mov (.t 1)), none, 2⟩, ⟨(some 8), (.call (.c (.fn 67 [])) [(.t 6), (.t 7)]), none, 2⟩, ⟨(some 5), (.alloc (.agg [(.u32 0), (.u32 0), (.u32 0), (.u32 0), (.u32 0), (.u32 0), (.u32 0), (.u32 0)])), none, 2⟩, ⟨none, (.store (some 8) (.t 5) (.t 8)), none, 2⟩]
 [])
 (.seq (.reg [⟨(some 9), (.iadA 8 1 (.t 5) (.c (.int 0))), none, 2⟩, ⟨(some 10), (.load none (.t 9)), none, 2⟩, ⟨(some 11), (.conv .u32u64 (.t 10)), none, 2⟩, ⟨(some 12), (.iadA 8 1 (.t 5) (.c (.int 1))), none, 2⟩, ⟨(some 13), (.load none (.t 12)), none, 2⟩, ⟨(some 14), (.conv .u32u64 (.t 13)), none, 2⟩, ⟨(some 15), (.bin .shl (.t 14) (.c (.u64 32))), none, 2⟩, ⟨(some 16), (.bin .or (.t 11) (.t 15)), none, 2⟩, ⟨(some 17), (.conv .u64i (.t 16)), none, 2⟩, ⟨(some 4), (.mov (.t 17)), none, 2⟩]
 [])
 .ret)))
theorem c52_ok : comp (tiOf Try.prog) mu52 [19, 21, 22, 25, 34, 38, 41, 42, 43, 46, 50, 56, 57, 58, 59, 62, 63, 65, 66, 71, 72, 73, 74, 75, 76] N52 (Try.f52.body.getD .skip) = c52 := by kernel_rfl
theorem b52 : Try.f52.body = some (Try.f52.body.getD .skip) := by kernel_rfl
theorem run52 {Γ : G} (hsp : SpOK Try.prog Γ.sp) {args : List AV} {h : List AO} {own : Bool} {kn : Nat} {K : AV → List AO → Prop} (hl : args.length ≤ N52) (hk0 : Γ.k0 = hlen h) (hkn : hlen h ≤ kn)
    (hrun : run Γ c52 (leafK Γ.sp res52 own kn K) [] (leafK Γ.sp res52 own kn K) (argS 0 args) h) (htn : Γ.tn ≤ N52 := by exact Nat.zero_le _)
    (hrf : ∀ F, rfind Γ.rf F = true → FdIter Try.prog F ∧ ∀ args w, (callFunc F args).run Try.prog w = .ok (.enter F args) w := by exact fun F h => absurd h (show ¬ (false = true) from Bool.false_ne_true)) : ACalls Try.prog 52 args h K :=
  acalls_of_run (tiOf_ok _) hsp follows Try.func52 b52 (rs := Try.f52.results.toList) (Array.toArray_toList).symm (by kernel_rfl) (by kernel_rfl) c52_ok (by kernel_rfl) hl hk0 htn hrf hkn hrun
theorem in52 : ∀ args w, (callFunc 52 args).run Try.prog w = .ok (.enter 52 args) w := callFunc_enter Try.func52 (by kernel_rfl) (by kernel_rfl)

/-- sentinel/wire.put -/
def N53 : Nat := 84
def mu53 : List Nat := []
def keep53 : List Nat := [0, 1, 2, 6, 7, 11, 12, 19, 26, 33, 40, 46, 52, 58, 64, 70, 77]
def res53 : List RV := [(.t 6)]
def c53 : CC :=
 (.seq (.reg [⟨(some 6), (.mov (.c (.bool false))), none, 2⟩]
 [])
 (.seq (.reg [⟨(some 8), (.mov (.t 2)), none, 2⟩, ⟨(some 9), (.build [(.sl true 0 0 (.agg []) true), (.bool false)] [(0, (1, (.t 8)))]), none, 2⟩, ⟨(some 10), (.box (.t 9)), none, 2⟩, ⟨(some 7), (.mov (.t 10)), none, 2⟩]
 [])
 (.seq (.seq (.reg [⟨(some 11), (.mov (.t 1)), none, 2⟩]
 [])
 (.block 0 (.seq (.reg [⟨(some 13), (.eq false .sc (.t 11) (.c (.int 1))), none, 2⟩, ⟨(some 12), (.mov (.t 13)), none, 2⟩]
 [])
 (.cond (.t 12)
 (.reg [⟨(some 14), (.mov (.t 0)), none, 2⟩, ⟨(some 15), (.mov (.t 7)), none, 2⟩, ⟨(some 16), (.call (.c (.fn 52 [])) [(.t 15), (.c (.int 1))]), none, 2⟩, ⟨(some 17), (.nilck (.t 14)), none, 2⟩, ⟨(some 18), (.fad 1 (.t 17)), none, 2⟩, ⟨none, (.store none (.t 18) (.t 16)), none, 2⟩]
 [])
 (.seq (.reg [⟨(some 20), (.eq false .sc (.t 11) (.c (.int 2))), none, 2⟩, ⟨(some 19), (.mov (.t 20)), none, 2⟩]
 [])
 (.cond (.t 19)
 (.reg [⟨(some 21), (.mov (.t 0)), none, 2⟩, ⟨(some 22), (.mov (.t 2)), none, 2⟩, ⟨(some 23), (.conv .bstr (.t 22)), none, 2⟩, ⟨(some 24), (.nilck (.t 21)), none, 2⟩, ⟨(some 25), (.fad 4 (.t 24)), none, 2⟩, ⟨none, (.store none (.t 25) (.t 23)), none, 2⟩]
 [])
 (.seq (.reg [⟨(some 27), (.eq false .sc (.t 11) (.c (.int 3))), none, 2⟩, ⟨(some 26), (.mov (.t 27)), none, 2⟩]
 [])
 (.cond (.t 26)
 (.reg [⟨(some 28), (.mov (.t 0)), none, 2⟩, ⟨(some 29), (.mov (.t 7)), none, 2⟩, ⟨(some 30), (.call (.c (.fn 67 [])) [(.t 29), (.c (.int 4))]), none, 2⟩, ⟨(some 31), (.nilck (.t 28)), none, 2⟩, ⟨(some 32), (.fad 5 (.t 31)), none, 2⟩, ⟨none, (.store (some 8) (.t 32) (.t 30)), none, 2⟩]
 [])
 (.seq (.reg [⟨(some 34), (.eq false .sc (.t 11) (.c (.int 4))), none, 2⟩, ⟨(some 33), (.mov (.t 34)), none, 2⟩]
 [])
 (.cond (.t 33)
 (.reg [⟨(some 35), (.mov (.t 0)), none, 2⟩, ⟨(some 36), (.mov (.t 7)), none, 2⟩, ⟨(some 37), (.call (.c (.fn 67 [])) [(.t 36), (.c (.int 4))]), none, 2⟩, ⟨(some 38), (.nilck (.t 35)), none, 2⟩, ⟨(some 39), (.fad 13 (.t 38)), none, 2⟩, ⟨none, (.store (some 8) (.t 39) (.t 37)), none, 2⟩]
 [])
 (.seq (.reg [⟨(some 41), (.eq false .sc (.t 11) (.c (.int 5))), none, 2⟩, ⟨(some 40), (.mov (.t 41)), none, 2⟩]
 [])
 (.cond (.t 40)
 (.reg [⟨(some 42), (.mov (.t 0)), none, 2⟩, ⟨(some 43), (.mov (.t 2)), none, 2⟩, ⟨(some 44), (.nilck (.t 42)), none, 2⟩, ⟨(some 45), (.fad 21 (.t 44)), none, 2⟩, ⟨none, (.store none (.t 45) (.t 43)), none, 2⟩]
 [])
 (.seq (.reg [⟨(some 47), (.eq false .sc (.t 11) (.c (.int 6))), none, 2⟩, ⟨(some 46), (.mov (.t 47)), none, 2⟩]
 [])
 (.cond (.t 46)
 (.reg [⟨(some 48), (.mov (.t 0)), none, 2⟩, ⟨(some 49), (.mov (.t 2)), none, 2⟩, ⟨(some 50), (.nilck (.t 48)), none, 2⟩, ⟨(some 51), (.fad 22 (.t 50)), none, 2⟩, ⟨none, (.store none (.t 51) (.t 49)), none, 2⟩]
 [])
 (.seq (.reg [⟨(some 53), (.eq false .sc (.t 11) (.c (.int 7))), none, 2⟩, ⟨(some 52), (.mov (.t 53)), none, 2⟩]
 [])
 (.cond (.t 52)
 (.reg [⟨(some 54), (.mov (.t 0)), none, 2⟩, ⟨(some 55), (.mov (.t 2)), none, 2⟩, ⟨(some 56), (.nilck (.t 54)), none, 2⟩, ⟨(some 57), (.fad 23 (.t 56)), none, 2⟩, ⟨none, (.store none (.t 57) (.t 55)), none, 2⟩]
 [])
 (.seq (.reg [⟨(some 59), (.eq false .sc (.t 11) (.c (.int 8))), none, 2⟩, ⟨(some 58), (.mov (.t 59)), none, 2⟩]
 [])
 (.cond (.t 58)
 (.reg [⟨(some 60), (.mov (.t 0)), none, 2⟩, ⟨(some 61), (.mov (.t 2)), none, 2⟩, ⟨(some 62), (.nilck (.t 60)), none, 2⟩, ⟨(some 63), (.fad 24 (.t 62)), none, 2⟩, ⟨none, (.store none (.t 63) (.t 61)), none, 2⟩]
 [])
 (.seq (.reg [⟨(some 65), (.eq false .sc (.t 11) (.c (.int 9))), none, 2⟩, ⟨(some 64), (.mov (.t 65)), none, 2⟩]
 [])
 (.cond (.t 64)
 (.reg [⟨(some 66), (.mov (.t 0)), none, 2⟩, ⟨(some 67), (.mov (.t 2)), none, 2⟩, ⟨(some 68), (.nilck (.t 66)), none, 2⟩, ⟨(some 69), (.fad 25 (.t 68)), none, 2⟩, ⟨none, (.store none (.t 69) (.t 67)), none, 2⟩]
 [])
 (.seq (.reg [⟨(some 71), (.eq false .sc (.t 11) (.c (.int 10))), none, 2⟩, ⟨(some 70), (.mov (.t 71)), none, 2⟩]
 [])
 (.cond (.t 70)
 (.reg [⟨(some 72), (.mov (.t 0)), none, 2⟩, ⟨(some 73), (.mov (.t 7)), none, 2⟩, ⟨(some 74), (.call (.c (.fn 52 [])) [(.t 73), (.c (.int 8))]), none, 2⟩, ⟨(some 75), (.nilck (.t 72)), none, 2⟩, ⟨(some 76), (.fad 2 (.t 75)), none, 2⟩, ⟨none, (.store none (.t 76) (.t 74)), none, 2⟩]
 [])
 (.seq (.reg [⟨(some 78), (.eq false .sc (.t 11) (.c (.int 11))), none, 2⟩, ⟨(some 77), (.mov (.t 78)), none, 2⟩]
 [])
 (.cond (.t 77)
 (.reg [⟨(some 79), (.mov (.t 0)), none, 2⟩, ⟨(some 80), (.mov (.t 7)), none, 2⟩, ⟨(some 81), (.call (.c (.fn 52 [])) [(.t 80), (.c (.int 1))]), none, 2⟩, ⟨(some 82), (.nilck (.t 79)), none, 2⟩, ⟨(some 83), (.fad 3 (.t 82)), none, 2⟩, ⟨none, (.store none (.t 83) (.t 81)), none, 2⟩]
 [])
 (.seq (.reg [⟨(some 6), (.mov (.c (.bool false))), none, 2⟩]
 [])
 .ret)))))))))))))))))))))))))
 (.seq (.reg [⟨(some 6), (.mov (.c (.bool true))), none, 2⟩]
 [])
 .ret))))
theorem c53_ok : comp (tiOf Try.prog) mu53 [19, 21, 22, 25, 34, 38, 41, 42, 43, 46, 50, 56, 57, 58, 59, 62, 63, 65, 66, 71, 72, 73, 74, 75, 76] N53 (Try.f53.body.getD .skip) = c53 := by kernel_rfl
theorem b53 : Try.f53.body = some (Try.f53.body.getD .skip) := by kernel_rfl
theorem run53 {Γ : G} (hsp : SpOK Try.prog Γ.sp) {args : List AV} {h : List AO} {own : Bool} {kn : Nat} {K : AV → List AO → Prop} (hl : args.length ≤ N53) (hk0 : Γ.k0 = hlen h) (hkn : hlen h ≤ kn)
    (hrun : run Γ c53 (leafK Γ.sp res53 own kn K) [] (leafK Γ.sp res53 own kn K) (argS 0 args) h) (htn : Γ.tn ≤ N53 := by exact Nat.zero_le _)
    (hrf : ∀ F, rfind Γ.rf F = true → FdIter Try.prog F ∧ ∀ args w, (callFunc F args).run Try.prog w = .ok (.enter F args) w := by exact fun F h => absurd h (show ¬ (false = true) from Bool.false_ne_true)) : ACalls Try.prog 53 args h K :=
  acalls_of_run (tiOf_ok _) hsp follows Try.func53 b53 (rs := Try.f53.results.toList) (Array.toArray_toList).symm (by kernel_rfl) (by kernel_rfl) c53_ok (by kernel_rfl) hl hk0 htn hrf hkn hrun
theorem in53 : ∀ args w, (callFunc 53 args).run Try.prog w = .ok (.enter 53 args) w := callFunc_enter Try.func53 (by kernel_rfl) (by kernel_rfl)

/-- (*sentinel/wire.reader).long -/
def N54 : Nat := 7
def mu54 : List Nat := []
def keep54 : List Nat := [0, 2]
def res54 : List RV := [(.t 2)]
def c54 : CC :=
 (.seq (.reg [⟨(some 2), (.mov (.c (.sl true 0 0 (.agg []) true))), none, 2⟩]
 [])
 (.seq (.reg [⟨(some 3), (.mov (.t 0)), none, 2⟩, ⟨(some 4), (.mov (.t 0)), none, 2⟩, ⟨(some 5), (.call (.c (.fn 52 [])) [(.t 4), (.c (.int 1))]), none, 2⟩, ⟨(some 6), (.call (.c (.fn 51 [])) [(.t 3), (.t 5)]), none, 2⟩, ⟨(some 2), (.mov (.t 6)), none, 2⟩]
 [])
 .ret))
theorem c54_ok : comp (tiOf Try.prog) mu54 [19, 21, 22, 25, 34, 38, 41, 42, 43, 46, 50, 56, 57, 58, 59, 62, 63, 65, 66, 71, 72, 73, 74, 75, 76] N54 (Try.f54.body.getD .skip) = c54 := by kernel_rfl
theorem b54 : Try.f54.body = some (Try.f54.body.getD .skip) := by kernel_rfl
theorem run54 {Γ : G} (hsp : SpOK Try.prog Γ.sp) {args : List AV} {h : List AO} {own : Bool} {kn : Nat} {K : AV → List AO → Prop} (hl : args.length ≤ N54) (hk0 : Γ.k0 = hlen h) (hkn : hlen h ≤ kn)
    (hrun : run Γ c54 (leafK Γ.sp res54 own kn K) [] (leafK Γ.sp res54 own kn K) (argS 0 args) h) (htn : Γ.tn ≤ N54 := by exact Nat.zero_le _)
    (hrf : ∀ F, rfind Γ.rf F = true → FdIter Try.prog F ∧ ∀ args w, (callFunc F args).run Try.prog w = .ok (.enter F args) w := by exact fun F h => absurd h (show ¬ (false = true) from Bool.false_ne_true)) : ACalls Try.prog 54 args h K :=
  acalls_of_run (tiOf_ok _) hsp follows Try.func54 b54 (rs := Try.f54.results.toList) (Array.toArray_toList).symm (by kernel_rfl) (by kernel_rfl) c54_ok (by kernel_rfl) hl hk0 htn hrf hkn hrun
theorem in54 : ∀ args w, (callFunc 54 args).run Try.prog w = .ok (.enter 54 args) w := callFunc_enter Try.func54 (by kernel_rfl) (by kernel_rfl)

/-- bytes.Equal -/
def N55 : Nat := 10
def mu55 : List Nat := []
def keep55 : List Nat := [0, 1, 4]
def res55 : List RV := [(.t 4)]
def c55 : CC :=
 (.seq (.reg [⟨(some 4), (.mov (.c (.bool false))), none, 2⟩]
 [])
 (.seq (.reg [⟨(some 5), (.mov (.t 0)), none, 2⟩, ⟨(some 6), (.conv .bstr (.t 5)), none, 2⟩, ⟨(some 7), (.mov (.t 1)), none, 2⟩, ⟨(some 8), (.conv .bstr (.t 7)), none, 2⟩, ⟨(some 9), (.eq false .sc (.t 6) (.t 8)), none, 2⟩, ⟨(some 4), (.mov (.t 9)), none, 2⟩]
 [])
 .ret))
theorem c55_ok : comp (tiOf Try.prog) mu55 [19, 21, 22, 25, 34, 38, 41, 42, 43, 46, 50, 56, 57, 58, 59, 62, 63, 65, 66, 71, 72, 73, 74, 75, 76] N55 (Try.f55.body.getD .skip) = c55 := by kernel_rfl
theorem b55 : Try.f55.body = some (Try.f55.body.getD .skip) := by kernel_rfl
theorem run55 {Γ : G} (hsp : SpOK Try.prog Γ.sp) {args : List AV} {h : List AO} {own : Bool} {kn : Nat} {K : AV → List AO → Prop} (hl : args.length ≤ N55) (hk0 : Γ.k0 = hlen h) (hkn : hlen h ≤ kn)
    (hrun : run Γ c55 (leafK Γ.sp res55 own kn K) [] (leafK Γ.sp res55 own kn K) (argS 0 args) h) (htn : Γ.tn ≤ N55 := by exact Nat.zero_le _)
    (hrf : ∀ F, rfind Γ.rf F = true → FdIter Try.prog F ∧ ∀ args w, (callFunc F args).run Try.prog w = .ok (.enter F args) w := by exact fun F h => absurd h (show ¬ (false = true) from Bool.false_ne_true)) : ACalls Try.prog 55 args h K :=
  acalls_of_run (tiOf_ok _) hsp follows Try.func55 b55 (rs := Try.f55.results.toList) (Array.toArray_toList).symm (by kernel_rfl) (by kernel_rfl) c55_ok (by kernel_rfl) hl hk0 htn hrf hkn hrun
theorem in55 : ∀ args w, (callFunc 55 args).run Try.prog w = .ok (.enter 55 args) w := callFunc_enter Try.func55 (by kernel_rfl) (by kernel_rfl)

/-- sentinel/sentinelref5.set -/
def N56 : Nat := 72
def mu56 : List Nat := []
def keep56 : List Nat := [0, 1, 2, 3, 6, 7, 9, 22, 23, 28, 33, 37, 41, 45, 49, 53, 57, 61, 66]
def res56 : List RV := [(.c 6 (some 26))]
def c56 : CC :=
 (.seq (.reg [⟨(some 3), (.box (.t 0)), none, 2⟩, ⟨(some 6), (.alloc (.agg [(.int 0), (.int 0), (.int 0), (.int 0), (.str []), (.u32 0), (.u32 0), (.u32 0), (.u32 0), (.u32 0), (.u32 0), (.u32 0), (.u32 0), (.u32 0), (.u32 0), (.u32 0), (.u32 0), (.u32 0), (.u32 0), (.u32 0), (.u32 0), (.sl true 0 0 (.agg []) true), (.sl true 0 0 (.agg []) true), (.sl true 0 0 (.agg []) true), (.sl true 0 0 (.agg []) true), (.sl true 0 0 (.agg []) true)])), none, 2⟩]
 [])
 (.seq (.reg [⟨(some 11), (.mov (.t 2)), none, 2⟩, ⟨(some 12), (.mov (.t 2)), none, 2⟩, ⟨(some 13), (.len false (.t 12)), none, 2⟩, ⟨(some 14), (.mn (.t 13) (.c (.int 32))), none, 2⟩, ⟨(some 15), (.slcS 1 (.t 11) none (some (.t 14)) none), none, 2⟩, ⟨(some 16), (.call (.c (.fn 70 [])) [(.t 15)]), none, 2⟩, ⟨(some 10), (.mov (.t 16)), none, 2⟩, ⟨(some 17), (.ext (.t 10) 0), none, 2⟩, ⟨(some 18), (.ext (.t 10) 1), none, 2⟩, ⟨(some 7), (.alloc (.agg [(.u32 0), (.u32 0), (.u32 0), (.u32 0), (.u32 0), (.u32 0), (.u32 0), (.u32 0)])), none, 2⟩, ⟨none, (.store (some 8) (.t 7) (.t 17)), none, 2⟩, ⟨(some 8), (.mov (.t 18)), none, 2⟩]
 [])
 (.seq (.reg [⟨(some 19), (.bsl false .u8 1 0 [(.u8 0)] []), none, 2⟩, ⟨(some 20), (.mov (.t 2)), none, 2⟩, ⟨(some 21), (.app true 1 1 (.t 19) (.t 20)), none, 2⟩, ⟨(some 9), (.mov (.t 21)), none, 2⟩]
 [])
 (.seq (.seq (.reg [⟨(some 22), (.mov (.t 1)), none, 2⟩]
 [])
 (.block 0 (.seq (.reg [⟨(some 24), (.eq false .sc (.t 22) (.c (.int 1))), none, 2⟩, ⟨(some 23), (.mov (.t 24)), none, 2⟩]
 [])
 (.cond (.t 23)
 (.reg [⟨(some 25), (.mov (.t 2)), none, 2⟩, ⟨(some 26), (.call (.c (.fn 68 [])) [(.t 25)]), none, 2⟩, ⟨(some 27), (.fad 1 (.t 3)), none, 2⟩, ⟨none, (.store none (.t 27) (.t 26)), none, 2⟩]
 [])
 (.seq (.reg [⟨(some 29), (.eq false .sc (.t 22) (.c (.int 2))), none, 2⟩, ⟨(some 28), (.mov (.t 29)), none, 2⟩]
 [])
 (.cond (.t 28)
 (.reg [⟨(some 30), (.mov (.t 2)), none, 2⟩, ⟨(some 31), (.conv .bstr (.t 30)), none, 2⟩, ⟨(some 32), (.fad 4 (.t 3)), none, 2⟩, ⟨none, (.store none (.t 32) (.t 31)), none, 2⟩]
 [])
 (.seq (.reg [⟨(some 34), (.eq false .sc (.t 22) (.c (.int 3))), none, 2⟩, ⟨(some 33), (.mov (.t 34)), none, 2⟩]
 [])
 (.cond (.t 33)
 (.reg [⟨(some 35), (.load (some 8) (.t 7)), none, 2⟩, ⟨(some 36), (.fad 5 (.t 3)), none, 2⟩, ⟨none, (.store (some 8) (.t 36) (.t 35)), none, 2⟩]
 [])
 (.seq (.reg [⟨(some 38), (.eq false .sc (.t 22) (.c (.int 4))), none, 2⟩, ⟨(some 37), (.mov (.t 38)), none, 2⟩]
 [])
 (.cond (.t 37)
 (.reg [⟨(some 39), (.load (some 8) (.t 7)), none, 2⟩, ⟨(some 40), (.fad 13 (.t 3)), none, 2⟩, ⟨none, (.store (some 8) (.t 40) (.t 39)), none, 2⟩]
 [])
 (.seq (.reg [⟨(some 42), (.eq false .sc (.t 22) (.c (.int 5))), none, 2⟩, ⟨(some 41), (.mov (.t 42)), none, 2⟩]
 [])
 (.cond (.t 41)
 (.reg [⟨(some 43), (.mov (.t 9)), none, 2⟩, ⟨(some 44), (.fad 21 (.t 3)), none, 2⟩, ⟨none, (.store none (.t 44) (.t 43)), none, 2⟩]
 [])
 (.seq (.reg [⟨(some 46), (.eq false .sc (.t 22) (.c (.int 6))), none, 2⟩, ⟨(some 45), (.mov (.t 46)), none, 2⟩]
 [])
 (.cond (.t 45)
 (.reg [⟨(some 47), (.mov (.t 9)), none, 2⟩, ⟨(some 48), (.fad 22 (.t 3)), none, 2⟩, ⟨none, (.store none (.t 48) (.t 47)), none, 2⟩]
 [])
 (.seq (.reg [⟨(some 50), (.eq false .sc (.t 22) (.c (.int 7))), none, 2⟩, ⟨(some 49), (.mov (.t 50)), none, 2⟩]
 [])
 (.cond (.t 49)
 (.reg [⟨(some 51), (.mov (.t 9)), none, 2⟩, ⟨(some 52), (.fad 23 (.t 3)), none, 2⟩, ⟨none, (.store none (.t 52) (.t 51)), none, 2⟩]
 [])
 (.seq (.reg [⟨(some 54), (.eq false .sc (.t 22) (.c (.int 8))), none, 2⟩, ⟨(some 53), (.mov (.t 54)), none, 2⟩]
 [])
 (.cond (.t 53)
 (.reg [⟨(some 55), (.mov (.t 9)), none, 2⟩, ⟨(some 56), (.fad 24 (.t 3)), none, 2⟩, ⟨none, (.store none (.t 56) (.t 55)), none, 2⟩]
 [])
 (.seq (.reg [⟨(some 58), (.eq false .sc (.t 22) (.c (.int 9))), none, 2⟩, ⟨(some 57), (.mov (.t 58)), none, 2⟩]
 [])
 (.cond (.t 57)
 (.reg [⟨(some 59), (.mov (.t 9)), none, 2⟩, ⟨(some 60), (.fad 25 (.t 3)), none, 2⟩, ⟨none, (.store none (.t 60) (.t 59)), none, 2⟩]
 [])
 (.seq (.reg [⟨(some 62), (.eq false .sc (.t 22) (.c (.int 10))), none, 2⟩, ⟨(some 61), (.mov (.t 62)), none, 2⟩]
 [])
 (.cond (.t 61)
 (.reg [⟨(some 63), (.mov (.t 2)), none, 2⟩, ⟨(some 64), (.call (.c (.fn 68 [])) [(.t 63)]), none, 2⟩, ⟨(some 65), (.fad 2 (.t 3)), none, 2⟩, ⟨none, (.store none (.t 65) (.t 64)), none, 2⟩]
 [])
 (.seq (.reg [⟨(some 67), (.eq false .sc (.t 22) (.c (.int 11))), none, 2⟩, ⟨(some 66), (.mov (.t 67)), none, 2⟩]
 [])
 (.cond (.t 66)
 (.reg [⟨(some 68), (.mov (.t 2)), none, 2⟩, ⟨(some 69), (.call (.c (.fn 68 [])) [(.t 68)]), none, 2⟩, ⟨(some 70), (.fad 3 (.t 3)), none, 2⟩, ⟨none, (.store none (.t 70) (.t 69)), none, 2⟩]
 [])
 .skip))))))))))))))))))))))))
 (.seq (.reg [⟨(some 71), (.load (some 26) (.t 3)), none, 2⟩, ⟨none, (.store (some 26) (.t 6) (.t 71)), none, 2⟩]
 [])
 .ret)))))
theorem c56_ok : comp (tiOf Try.prog) mu56 [19, 21, 22, 25, 34, 38, 41, 42, 43, 46, 50, 56, 57, 58, 59, 62, 63, 65, 66, 71, 72, 73, 74, 75, 76] N56 (Try.f56.body.getD .skip) = c56 := by kernel_rfl
theorem b56 : Try.f56.body = some (Try.f56.body.getD .skip) := by kernel_rfl
theorem run56 {Γ : G} (hsp : SpOK Try.prog Γ.sp) {args : List AV} {h : List AO} {own : Bool} {kn : Nat} {K : AV → List AO → Prop} (hl : args.length ≤ N56) (hk0 : Γ.k0 = hlen h) (hkn : hlen h ≤ kn)
    (hrun : run Γ c56 (leafK Γ.sp res56 own kn K) [] (leafK Γ.sp res56 own kn K) (argS 0 args) h) (htn : Γ.tn ≤ N56 := by exact Nat.zero_le _)
    (hrf : ∀ F, rfind Γ.rf F = true → FdIter Try.prog F ∧ ∀ args w, (callFunc F args).run Try.prog w = .ok (.enter F args) w := by exact fun F h => absurd h (show ¬ (false = true) from Bool.false_ne_true)) : ACalls Try.prog 56 args h K :=
  acalls_of_run (tiOf_ok _) hsp follows Try.func56 b56 (rs := Try.f56.results.toList) (Array.toArray_toList).symm (by kernel_rfl) (by kernel_rfl) c56_ok (by kernel_rfl) hl hk0 htn hrf hkn hrun
theorem in56 : ∀ args w, (callFunc 56 args).run Try.prog w = .ok (.enter 56 args) w := callFunc_enter Try.func56 (by kernel_rfl) (by kernel_rfl)

/-- sentinel/sentinelref5.wanted -/
def N57 : Nat := 61
def mu57 : List Nat := []
def keep57 : List Nat := [0, 1, 2, 4, 5, 9, 14, 18, 23, 27, 32, 37, 41, 45, 47, 52, 57]
def res57 : List RV := [(.t 2)]
def c57 : CC :=
 (.seq (.reg [⟨(some 1), (.box (.t 0)), none, 2⟩, ⟨(some 2), (.mov (.c (.int 0))), none, 2⟩]
 [])
 (.seq (.seq (.reg [⟨(some 3), (.fad 0 (.t 1)), none, 2⟩, ⟨(some 4), (.load none (.t 3)), none, 2⟩]
 [])
 (.block 0 (.seq (.reg [⟨(some 6), (.eq false .sc (.t 4) (.c (.int 1))), none, 2⟩, ⟨(some 5), (.mov (.t 6)), none, 2⟩]
 [])
 (.cond (.t 5)
 (.seq (.seq (.reg [⟨(some 7), (.fad 1 (.t 1)), none, 2⟩, ⟨(some 8), (.load none (.t 7)), none, 2⟩, ⟨(some 9), (.eq false .sc (.t 8) (.c (.int 2))), none, 2⟩]
 [])
 (.cond (.t 9)
 (.seq (.reg [⟨(some 10), (.bsl false .int 1 4 [(.int 0)] [(0, (1, (.c (.int 1)))), (1, (1, (.c (.int 2)))), (2, (1, (.c (.int 3)))), (3, (1, (.c (.int 4))))]), none, 2⟩, ⟨(some 11), (.call (.c (.fn 80 [])) [(.t 10)]), none, 2⟩, ⟨(some 2), (.mov (.t 11)), none, 2⟩]
 [])
 .ret)
 .skip))
 (.seq (.reg [⟨(some 12), (.bsl false .int 1 3 [(.int 0)] [(0, (1, (.c (.int 1)))), (1, (1, (.c (.int 2)))), (2, (1, (.c (.int 3))))]), none, 2⟩, ⟨(some 13), (.call (.c (.fn 80 [])) [(.t 12)]), none, 2⟩, ⟨(some 2), (.mov (.t 13)), none, 2⟩]
 [])
 .ret))
 (.seq (.reg [⟨(some 15), (.eq false .sc (.t 4) (.c (.int 2))), none, 2⟩, ⟨(some 14), (.mov (.t 15)), none, 2⟩]
 [])
 (.cond (.t 14)
 (.seq (.seq (.reg [⟨(some 16), (.fad 1 (.t 1)), none, 2⟩, ⟨(some 17), (.load none (.t 16)), none, 2⟩, ⟨(some 18), (.eq false .sc (.t 17) (.c (.int 2))), none, 2⟩]
 [])
 (.cond (.t 18)
 (.seq (.reg [⟨(some 19), (.bsl false .int 1 4 [(.int 0)] [(0, (1, (.c (.int 1)))), (1, (1, (.c (.int 3)))), (2, (1, (.c (.int 4)))), (3, (1, (.c (.int 6))))]), none, 2⟩, ⟨(some 20), (.call (.c (.fn 80 [])) [(.t 19)]), none, 2⟩, ⟨(some 2), (.mov (.t 20)), none, 2⟩]
 [])
 .ret)
 .skip))
 (.seq (.reg [⟨(some 21), (.bsl false .int 1 3 [(.int 0)] [(0, (1, (.c (.int 1)))), (1, (1, (.c (.int 4)))), (2, (1, (.c (.int 5))))]), none, 2⟩, ⟨(some 22), (.call (.c (.fn 80 [])) [(.t 21)]), none, 2⟩, ⟨(some 2), (.mov (.t 22)), none, 2⟩]
 [])
 .ret))
 (.seq (.reg [⟨(some 24), (.eq false .sc (.t 4) (.c (.int 3))), none, 2⟩, ⟨(some 23), (.mov (.t 24)), none, 2⟩]
 [])
 (.cond (.t 23)
 (.seq (.reg [⟨(some 25), (.bsl false .int 1 1 [(.int 0)] [(0, (1, (.c (.int 7))))]), none, 2⟩, ⟨(some 26), (.call (.c (.fn 80 [])) [(.t 25)]), none, 2⟩, ⟨(some 2), (.mov (.t 26)), none, 2⟩]
 [])
 .ret)
 (.seq (.reg [⟨(some 28), (.eq false .sc (.t 4) (.c (.int 4))), none, 2⟩, ⟨(some 27), (.mov (.t 28)), none, 2⟩]
 [])
 (.cond (.t 27)
 (.seq (.seq (.reg [⟨(some 29), (.fad 23 (.t 1)), none, 2⟩, ⟨(some 30), (.load none (.t 29)), none, 2⟩, ⟨(some 31), (.len false (.t 30)), none, 2⟩, ⟨(some 32), (.bin .gtr (.t 31) (.c (.int 0))), none, 2⟩]
 [])
 (.cond (.t 32)
 (.seq (.reg [⟨(some 33), (.bsl false .int 1 2 [(.int 0)] [(0, (1, (.c (.int 7)))), (1, (1, (.c (.int 8))))]), none, 2⟩, ⟨(some 34), (.call (.c (.fn 80 [])) [(.t 33)]), none, 2⟩, ⟨(some 2), (.mov (.t 34)), none, 2⟩]
 [])
 .ret)
 .skip))
 (.seq (.reg [⟨(some 35), (.bsl false .int 1 1 [(.int 0)] [(0, (1, (.c (.int 8))))]), none, 2⟩, ⟨(some 36), (.call (.c (.fn 80 [])) [(.t 35)]), none, 2⟩, ⟨(some 2), (.mov (.t 36)), none, 2⟩]
 [])
 .ret))
 (.seq (.reg [⟨(some 38), (.eq false .sc (.t 4) (.c (.int 5))), none, 2⟩, ⟨(some 37), (.mov (.t 38)), none, 2⟩]
 [])
 (.cond (.t 37)
 (.seq (.reg [⟨(some 39), (.bsl false .int 1 1 [(.int 0)] [(0, (1, (.c (.int 11))))]), none, 2⟩, ⟨(some 40), (.call (.c (.fn 80 [])) [(.t 39)]), none, 2⟩, ⟨(some 2), (.mov (.t 40)), none, 2⟩]
 [])
 .ret)
 (.seq (.reg [⟨(some 42), (.eq false .sc (.t 4) (.c (.int 6))), none, 2⟩, ⟨(some 41), (.mov (.t 42)), none, 2⟩]
 [])
 (.cond (.t 41)
 (.seq (.reg [⟨(some 43), (.bsl false .int 1 3 [(.int 0)] [(0, (1, (.c (.int 1)))), (1, (1, (.c (.int 2)))), (2, (1, (.c (.int 9))))]), none, 2⟩, ⟨(some 44), (.call (.c (.fn 80 [])) [(.t 43)]), none, 2⟩, ⟨(some 2), (.mov (.t 44)), none, 2⟩]
 [])
 .ret)
 (.seq (.reg [⟨(some 46), (.eq false .sc (.t 4) (.c (.int 7))), none, 2⟩, ⟨(some 45), (.mov (.t 46)), none, 2⟩]
 [])
 (.cond (.t 45)
 (.seq (.reg [⟨(some 2), (.mov (.c (.int 0))), none, 2⟩]
 [])
 .ret)
 (.seq (.seq (.reg [⟨(some 48), (.eq false .sc (.t 4) (.c (.int 8))), none, 2⟩, ⟨(some 47), (.mov (.t 48)), none, 2⟩]
 [])
 (.cond (.t 47)
 .skip
 (.reg [⟨(some 49), (.eq false .sc (.t 4) (.c (.int 12))), none, 2⟩, ⟨(some 47), (.mov (.t 49)), none, 2⟩]
 [])))
 (.cond (.t 47)
 (.seq (.reg [⟨(some 50), (.bsl false .int 1 2 [(.int 0)] [(0, (1, (.c (.int 8)))), (1, (1, (.c (.int 10))))]), none, 2⟩, ⟨(some 51), (.call (.c (.fn 80 [])) [(.t 50)]), none, 2⟩, ⟨(some 2), (.mov (.t 51)), none, 2⟩]
 [])
 .ret)
 (.seq (.seq (.reg [⟨(some 53), (.eq false .sc (.t 4) (.c (.int 9))), none, 2⟩, ⟨(some 52), (.mov (.t 53)), none, 2⟩]
 [])
 (.cond (.t 52)
 .skip
 (.reg [⟨(some 54), (.eq false .sc (.t 4) (.c (.int 10))), none, 2⟩, ⟨(some 52), (.mov (.t 54)), none, 2⟩]
 [])))
 (.cond (.t 52)
 (.seq (.reg [⟨(some 55), (.bsl false .int 1 1 [(.int 0)] [(0, (1, (.c (.int 8))))]), none, 2⟩, ⟨(some 56), (.call (.c (.fn 80 [])) [(.t 55)]), none, 2⟩, ⟨(some 2), (.mov (.t 56)), none, 2⟩]
 [])
 .ret)
 (.seq (.reg [⟨(some 58), (.eq false .sc (.t 4) (.c (.int 11))), none, 2⟩, ⟨(some 57), (.mov (.t 58)), none, 2⟩]
 [])
 (.cond (.t 57)
 (.seq (.reg [⟨(some 59), (.bsl false .int 1 3 [(.int 0)] [(0, (1, (.c (.int 1)))), (1, (1, (.c (.int 8)))), (2, (1, (.c (.int 9))))]), none, 2⟩, ⟨(some 60), (.call (.c (.fn 80 [])) [(.t 59)]), none, 2⟩, ⟨(some 2), (.mov (.t 60)), none, 2⟩]
 [])
 .ret)
 .skip))))))))))))))))))))))
 (.seq (.reg [⟨(some 2), (.mov (.c (.int (-1)))), none, 2⟩]
 [])
 .ret)))
theorem c57_ok : comp (tiOf Try.prog) mu57 [19, 21, 22, 25, 34, 38, 41, 42, 43, 46, 50, 56, 57, 58, 59, 62, 63, 65, 66, 71, 72, 73, 74, 75, 76] N57 (Try.f57.body.getD .skip) = c57 := by kernel_rfl
theorem b57 : Try.f57.body = some (Try.f57.body.getD .skip) := by kernel_rfl
theorem run57 {Γ : G} (hsp : SpOK Try.prog Γ.sp) {args : List AV} {h : List AO} {own : Bool} {kn : Nat} {K : AV → List AO → Prop} (hl : args.length ≤ N57) (hk0 : Γ.k0 = hlen h) (hkn : hlen h ≤ kn)
    (hrun : run Γ c57 (leafK Γ.sp res57 own kn K) [] (leafK Γ.sp res57 own kn K) (argS 0 args) h) (htn : Γ.tn ≤ N57 := by exact Nat.zero_le _)
    (hrf : ∀ F, rfind Γ.rf F = true → FdIter Try.prog F ∧ ∀ args w, (callFunc F args).run Try.prog w = .ok (.enter F args) w := by exact fun F h => absurd h (show ¬ (false = true) from Bool.false_ne_true)) : ACalls Try.prog 57 args h K :=
  acalls_of_run (tiOf_ok _) hsp follows Try.func57 b57 (rs := Try.f57.results.toList) (Array.toArray_toList).symm (by kernel_rfl) (by kernel_rfl) c57_ok (by kernel_rfl) hl hk0 htn hrf hkn hrun
theorem in57 : ∀ args w, (callFunc 57 args).run Try.prog w = .ok (.enter 57 args) w := callFunc_enter Try.func57 (by kernel_rfl) (by kernel_rfl)

/-- sentinel/sentinelref5.Name -/
def N58 : Nat := 28
def mu58 : List Nat := []
def keep58 : List Nat := [0, 2, 3, 7, 19]
def res58 : List RV := [(.t 2)]
def c58 : CC :=
 (.seq (.reg [⟨(some 2), (.mov (.c (.bool false))), none, 2⟩]
 [])
 (.seq (.seq (.reg [⟨(some 3), (.mov (.c (.int 0))), none, 2⟩]
 [])
 (.block 0 (.loop (.seq (.seq (.reg [⟨(some 4), (.mov (.t 3)), none, 2⟩, ⟨(some 5), (.mov (.t 0)), none, 2⟩, ⟨(some 6), (.len true (.t 5)), none, 2⟩, ⟨(some 7), (.bin .lss (.t 4) (.t 6)), none, 2⟩]
 [])
 (.cond (.t 7)
 .skip
 (.exit 0)))
 (.seq (.block 1 (.seq (.reg [⟨(some 10), (.mov (.t 0)), none, 2⟩, ⟨(some 11), (.mov (.t 3)), none, 2⟩, ⟨(some 12), (.idx (.t 10) (.t 11)), none, 2⟩, ⟨(some 13), (.bin .lss (.t 12) (.c (.u8 33))), none, 2⟩, ⟨(some 14), (.mov (.t 13)), none, 2⟩, ⟨(some 15), (.mov (.t 0)), (some (14, false)), 2⟩, ⟨(some 16), (.mov (.t 3)), (some (14, false)), 2⟩, ⟨(some 17), (.idx (.t 15) (.t 16)), (some (14, false)), 2⟩, ⟨(some 18), (.bin .gtr (.t 17) (.c (.u8 126))), (some (14, false)), 2⟩, ⟨(some 19), (.pick (.t 14) (.c (.bool true)) (.t 18)), none, 2⟩]
 [])
 (.cond (.t 19)
 (.seq (.reg [⟨(some 2), (.mov (.c (.bool false))), none, 2⟩]
 [])
 .ret)
 .skip)))
 (.reg [⟨(some 8), (.mov (.t 3)), none, 2⟩, ⟨(some 9), (.bin .add (.t 8) (.c (.int 1))), none, 2⟩, ⟨(some 3), (.mov (.t 9)), none, 2⟩]
 []))))))
 (.seq (.reg [⟨(some 20), (.mov (.t 0)), none, 2⟩, ⟨(some 21), (.len true (.t 20)), none, 2⟩, ⟨(some 22), (.bin .gtr (.t 21) (.c (.int 0))), none, 2⟩, ⟨(some 23), (.mov (.t 22)), none, 2⟩, ⟨(some 24), (.mov (.t 0)), (some (23, true)), 2⟩, ⟨(some 25), (.len true (.t 24)), (some (23, true)), 2⟩, ⟨(some 26), (.bin .leq (.t 25) (.c (.int 16))), (some (23, true)), 2⟩, ⟨(some 27), (.pick (.t 23) (.t 26) (.c (.bool false))), none, 2⟩, ⟨(some 2), (.mov (.t 27)), none, 2⟩]
 [])
 .ret)))
theorem c58_ok : comp (tiOf Try.prog) mu58 [19, 21, 22, 25, 34, 38, 41, 42, 43, 46, 50, 56, 57, 58, 59, 62, 63, 65, 66, 71, 72, 73, 74, 75, 76] N58 (Try.f58.body.getD .skip) = c58 := by kernel_rfl
theorem b58 : Try.f58.body = some (Try.f58.body.getD .skip) := by kernel_rfl
theorem run58 {Γ : G} (hsp : SpOK Try.prog Γ.sp) {args : List AV} {h : List AO} {own : Bool} {kn : Nat} {K : AV → List AO → Prop} (hl : args.length ≤ N58) (hk0 : Γ.k0 = hlen h) (hkn : hlen h ≤ kn)
    (hrun : run Γ c58 (leafK Γ.sp res58 own kn K) [] (leafK Γ.sp res58 own kn K) (argS 0 args) h) (htn : Γ.tn ≤ N58 := by exact Nat.zero_le _)
    (hrf : ∀ F, rfind Γ.rf F = true → FdIter Try.prog F ∧ ∀ args w, (callFunc F args).run Try.prog w = .ok (.enter F args) w := by exact fun F h => absurd h (show ¬ (false = true) from Bool.false_ne_true)) : ACalls Try.prog 58 args h K :=
  acalls_of_run (tiOf_ok _) hsp follows Try.func58 b58 (rs := Try.f58.results.toList) (Array.toArray_toList).symm (by kernel_rfl) (by kernel_rfl) c58_ok (by kernel_rfl) hl hk0 htn hrf hkn hrun
theorem in58 : ∀ args w, (callFunc 58 args).run Try.prog w = .ok (.enter 58 args) w := callFunc_enter Try.func58 (by kernel_rfl) (by kernel_rfl)

/-- sentinel/sentinelref5.small -/
def N59 : Nat := 6
def mu59 : List Nat := []
def keep59 : List Nat := [0, 1, 2]
def res59 : List RV := [(.t 2)]
def c59 : CC :=
 (.seq (.reg [⟨(some 1), (.box (.t 0)), none, 2⟩, ⟨(some 2), (.mov (.c (.bool false))), none, 2⟩]
 [])
 (.seq (.reg [⟨(some 3), (.load (some 8) (.t 1)), none, 2⟩, ⟨(some 4), (.call (.c (.fn 41 [])) [(.t 3)]), none, 2⟩, ⟨(some 5), (.bin .leq (.t 4) (.c (.int 32))), none, 2⟩, ⟨(some 2), (.mov (.t 5)), none, 2⟩]
 [])
 .ret))
theorem c59_ok : comp (tiOf Try.prog) mu59 [19, 21, 22, 25, 34, 38, 41, 42, 43, 46, 50, 56, 57, 58, 59, 62, 63, 65, 66, 71, 72, 73, 74, 75, 76] N59 (Try.f59.body.getD .skip) = c59 := by kernel_rfl
theorem b59 : Try.f59.body = some (Try.f59.body.getD .skip) := by kernel_rfl
theorem run59 {Γ : G} (hsp : SpOK Try.prog Γ.sp) {args : List AV} {h : List AO} {own : Bool} {kn : Nat} {K : AV → List AO → Prop} (hl : args.length ≤ N59) (hk0 : Γ.k0 = hlen h) (hkn : hlen h ≤ kn)
    (hrun : run Γ c59 (leafK Γ.sp res59 own kn K) [] (leafK Γ.sp res59 own kn K) (argS 0 args) h) (htn : Γ.tn ≤ N59 := by exact Nat.zero_le _)
    (hrf : ∀ F, rfind Γ.rf F = true → FdIter Try.prog F ∧ ∀ args w, (callFunc F args).run Try.prog w = .ok (.enter F args) w := by exact fun F h => absurd h (show ¬ (false = true) from Bool.false_ne_true)) : ACalls Try.prog 59 args h K :=
  acalls_of_run (tiOf_ok _) hsp follows Try.func59 b59 (rs := Try.f59.results.toList) (Array.toArray_toList).symm (by kernel_rfl) (by kernel_rfl) c59_ok (by kernel_rfl) hl hk0 htn hrf hkn hrun
theorem in59 : ∀ args w, (callFunc 59 args).run Try.prog w = .ok (.enter 59 args) w := callFunc_enter Try.func59 (by kernel_rfl) (by kernel_rfl)

/-- sentinel/wire.named -/
def N60 : Nat := 28
def mu60 : List Nat := []
def keep60 : List Nat := [0, 2, 3, 11, 13, 14, 15, 26]
def res60 : List RV := [(.t 2)]
def c60 : CC :=
 (.seq (.reg [⟨(some 2), (.mov (.c (.bool false))), none, 2⟩]
 [])
 (.seq (.seq (.reg [⟨(some 4), (.mov (.t 0)), none, 2⟩, ⟨(some 5), (.len true (.t 4)), none, 2⟩, ⟨(some 6), (.bin .lss (.t 5) (.c (.int 1))), none, 2⟩, ⟨(some 7), (.mov (.t 6)), none, 2⟩, ⟨(some 8), (.mov (.t 0)), (some (7, false)), 2⟩, ⟨(some 9), (.len true (.t 8)), (some (7, false)), 2⟩, ⟨(some 10), (.bin .gtr (.t 9) (.c (.int 16))), (some (7, false)), 2⟩, ⟨(some 11), (.pick (.t 7) (.c (.bool true)) (.t 10)), none, 2⟩]
 [])
 (.cond (.t 11)
 (.seq (.reg [⟨(some 2), (.mov (.c (.bool false))), none, 2⟩]
 [])
 .ret)
 .skip))
 (.seq (.seq (.reg [⟨(some 12), (.mov (.t 0)), none, 2⟩, ⟨(some 13), (.len true (.t 12)), none, 2⟩, ⟨(some 14), (.mov (.c (.int 0))), none, 2⟩]
 [])
 (.block 0 (.loop (.seq (.reg [⟨(some 15), (.bin .lss (.t 14) (.t 13)), none, 2⟩]
 [])
 (.seq (.cond (.t 15)
 .skip
 (.exit 0))
 (.seq (.block 1 (.seq (.reg [⟨(some 16), (.mov (.t 14)), none, 2⟩, ⟨(some 3), (.mov (.t 16)), none, 2⟩]
 [])
 (.seq (.reg [⟨(some 17), (.mov (.t 0)), none, 2⟩, ⟨(some 18), (.mov (.t 3)), none, 2⟩, ⟨(some 19), (.idx (.t 17) (.t 18)), none, 2⟩, ⟨(some 20), (.bin .lss (.t 19) (.c (.u8 33))), none, 2⟩, ⟨(some 21), (.mov (.t 20)), none, 2⟩, ⟨(some 22), (.mov (.t 0)), (some (21, false)), 2⟩, ⟨(some 23), (.mov (.t 3)), (some (21, false)), 2⟩, ⟨(some 24), (.idx (.t 22) (.t 23)), (some (21, false)), 2⟩, ⟨(some 25), (.bin .gtr (.t 24) (.c (.u8 126))), (some (21, false)), 2⟩, ⟨(some 26), (.pick (.t 21) (.c (.bool true)) (.t 25)), none, 2⟩]
 [])
 (.cond (.t 26)
 (.seq (.reg [⟨(some 2), (.mov (.c (.bool false))), none, 2⟩]
 [])
 .ret)
 .skip))))
 (.reg [⟨(some 27), (.bin .add (.t 14) (.c (.int 1))), none, 2⟩, ⟨(some 14), (.mov (.t 27)), none, 2⟩]
 [])))))))
 (.seq (.reg [⟨(some 2), (.mov (.c (.bool true))), none, 2⟩]
 [])
 .ret))))
theorem c60_ok : comp (tiOf Try.prog) mu60 [19, 21, 22, 25, 34, 38, 41, 42, 43, 46, 50, 56, 57, 58, 59, 62, 63, 65, 66, 71, 72, 73, 74, 75, 76] N60 (Try.f60.body.getD .skip) = c60 := by kernel_rfl
theorem b60 : Try.f60.body = some (Try.f60.body.getD .skip) := by kernel_rfl
theorem run60 {Γ : G} (hsp : SpOK Try.prog Γ.sp) {args : List AV} {h : List AO} {own : Bool} {kn : Nat} {K : AV → List AO → Prop} (hl : args.length ≤ N60) (hk0 : Γ.k0 = hlen h) (hkn : hlen h ≤ kn)
    (hrun : run Γ c60 (leafK Γ.sp res60 own kn K) [] (leafK Γ.sp res60 own kn K) (argS 0 args) h) (htn : Γ.tn ≤ N60 := by exact Nat.zero_le _)
    (hrf : ∀ F, rfind Γ.rf F = true → FdIter Try.prog F ∧ ∀ args w, (callFunc F args).run Try.prog w = .ok (.enter F args) w := by exact fun F h => absurd h (show ¬ (false = true) from Bool.false_ne_true)) : ACalls Try.prog 60 args h K :=
  acalls_of_run (tiOf_ok _) hsp follows Try.func60 b60 (rs := Try.f60.results.toList) (Array.toArray_toList).symm (by kernel_rfl) (by kernel_rfl) c60_ok (by kernel_rfl) hl hk0 htn hrf hkn hrun
theorem in60 : ∀ args w, (callFunc 60 args).run Try.prog w = .ok (.enter 60 args) w := callFunc_enter Try.func60 (by kernel_rfl) (by kernel_rfl)

/-- sentinel/limb.Bits -/
def N61 : Nat := 19
def mu61 : List Nat := []
def keep61 : List Nat := [0, 1, 2, 3, 5, 11]
def res61 : List RV := [(.t 2)]
def c61 : CC :=
 (.seq (.reg [⟨(some 1), (.box (.t 0)), none, 2⟩, ⟨(some 2), (.mov (.c (.int 0))), none, 2⟩]
 [])
 (.seq (.seq (.reg [⟨(some 3), (.mov (.c (.int 7))), none, 2⟩]
 [])
 (.block 0 (.loop (.seq (.seq (.reg [⟨(some 4), (.mov (.t 3)), none, 2⟩, ⟨(some 5), (.bin .geq (.t 4) (.c (.int 0))), none, 2⟩]
 [])
 (.cond (.t 5)
 .skip
 (.exit 0)))
 (.seq (.block 1 (.seq (.reg [⟨(some 8), (.mov (.t 3)), none, 2⟩, ⟨(some 9), (.iadA 8 1 (.t 1) (.t 8)), none, 2⟩, ⟨(some 10), (.load none (.t 9)), none, 2⟩, ⟨(some 11), (.eq true .sc (.t 10) (.c (.u32 0))), none, 2⟩]
 [])
 (.cond (.t 11)
 (.seq (.reg [⟨(some 12), (.mov (.t 3)), none, 2⟩, ⟨(some 13), (.bin .mul (.c (.int 32)) (.t 12)), none, 2⟩, ⟨(some 14), (.mov (.t 3)), none, 2⟩, ⟨(some 15), (.iadA 8 1 (.t 1) (.t 14)), none, 2⟩, ⟨(some 16), (.load none (.t 15)), none, 2⟩, ⟨(some 17), (.call (.c (.fn 81 [])) [(.t 16)]), none, 2⟩, ⟨(some 18), (.bin .add (.t 13) (.t 17)), none, 2⟩, ⟨(some 2), (.mov (.t 18)), none, 2⟩]
 [])
 .ret)
 .skip)))
 (.reg [⟨(some 6), (.mov (.t 3)), none, 2⟩, ⟨(some 7), (.bin .sub (.t 6) (.c (.int 1))), none, 2⟩, ⟨(some 3), (.mov (.t 7)), none, 2⟩]
 []))))))
 (.seq (.reg [⟨(some 2), (.mov (.c (.int 0))), none, 2⟩]
 [])
 .ret)))
theorem c61_ok : comp (tiOf Try.prog) mu61 [19, 21, 22, 25, 34, 38, 41, 42, 43, 46, 50, 56, 57, 58, 59, 62, 63, 65, 66, 71, 72, 73, 74, 75, 76] N61 (Try.f61.body.getD .skip) = c61 := by kernel_rfl
theorem b61 : Try.f61.body = some (Try.f61.body.getD .skip) := by kernel_rfl
theorem run61 {Γ : G} (hsp : SpOK Try.prog Γ.sp) {args : List AV} {h : List AO} {own : Bool} {kn : Nat} {K : AV → List AO → Prop} (hl : args.length ≤ N61) (hk0 : Γ.k0 = hlen h) (hkn : hlen h ≤ kn)
    (hrun : run Γ c61 (leafK Γ.sp res61 own kn K) [] (leafK Γ.sp res61 own kn K) (argS 0 args) h) (htn : Γ.tn ≤ N61 := by exact Nat.zero_le _)
    (hrf : ∀ F, rfind Γ.rf F = true → FdIter Try.prog F ∧ ∀ args w, (callFunc F args).run Try.prog w = .ok (.enter F args) w := by exact fun F h => absurd h (show ¬ (false = true) from Bool.false_ne_true)) : ACalls Try.prog 61 args h K :=
  acalls_of_run (tiOf_ok _) hsp follows Try.func61 b61 (rs := Try.f61.results.toList) (Array.toArray_toList).symm (by kernel_rfl) (by kernel_rfl) c61_ok (by kernel_rfl) hl hk0 htn hrf hkn hrun
theorem in61 : ∀ args w, (callFunc 61 args).run Try.prog w = .ok (.enter 61 args) w := callFunc_enter Try.func61 (by kernel_rfl) (by kernel_rfl)

/-- sentinel/wire.at -/
def N62 : Nat := 14
def mu62 : List Nat := []
def keep62 : List Nat := [0, 1, 2, 4, 5]
def res62 : List RV := [(.t 4)]
def c62 : CC :=
 (.seq (.reg [⟨(some 2), (.box (.t 0)), none, 2⟩, ⟨(some 4), (.mov (.c (.sl true 0 0 (.agg []) true))), none, 2⟩]
 [])
 (.seq (.reg [⟨(some 6), (.load (some 8) (.t 2)), none, 2⟩, ⟨(some 7), (.call (.c (.fn 82 [])) [(.t 6)]), none, 2⟩, ⟨(some 5), (.mov (.t 7)), none, 2⟩]
 [])
 (.seq (.reg [⟨(some 8), (.mov (.t 5)), none, 2⟩, ⟨(some 9), (.mov (.t 5)), none, 2⟩, ⟨(some 10), (.len false (.t 9)), none, 2⟩, ⟨(some 11), (.mov (.t 1)), none, 2⟩, ⟨(some 12), (.bin .sub (.t 10) (.t 11)), none, 2⟩, ⟨(some 13), (.slcS 1 (.t 8) (some (.t 12)) none none), none, 2⟩, ⟨(some 4), (.mov (.t 13)), none, 2⟩]
 [])
 .ret)))
theorem c62_ok : comp (tiOf Try.prog) mu62 [19, 21, 22, 25, 34, 38, 41, 42, 43, 46, 50, 56, 57, 58, 59, 62, 63, 65, 66, 71, 72, 73, 74, 75, 76] N62 (Try.f62.body.getD .skip) = c62 := by kernel_rfl
theorem b62 : Try.f62.body = some (Try.f62.body.getD .skip) := by kernel_rfl
theorem run62 {Γ : G} (hsp : SpOK Try.prog Γ.sp) {args : List AV} {h : List AO} {own : Bool} {kn : Nat} {K : AV → List AO → Prop} (hl : args.length ≤ N62) (hk0 : Γ.k0 = hlen h) (hkn : hlen h ≤ kn)
    (hrun : run Γ c62 (leafK Γ.sp res62 own kn K) [] (leafK Γ.sp res62 own kn K) (argS 0 args) h) (htn : Γ.tn ≤ N62 := by exact Nat.zero_le _)
    (hrf : ∀ F, rfind Γ.rf F = true → FdIter Try.prog F ∧ ∀ args w, (callFunc F args).run Try.prog w = .ok (.enter F args) w := by exact fun F h => absurd h (show ¬ (false = true) from Bool.false_ne_true)) : ACalls Try.prog 62 args h K :=
  acalls_of_run (tiOf_ok _) hsp follows Try.func62 b62 (rs := Try.f62.results.toList) (Array.toArray_toList).symm (by kernel_rfl) (by kernel_rfl) c62_ok (by kernel_rfl) hl hk0 htn hrf hkn hrun
theorem in62 : ∀ args w, (callFunc 62 args).run Try.prog w = .ok (.enter 62 args) w := callFunc_enter Try.func62 (by kernel_rfl) (by kernel_rfl)

/-- sentinel/limb.From -/
def N63 : Nat := 15
def mu63 : List Nat := []
def keep63 : List Nat := [0, 2, 3, 5]
def res63 : List RV := [(.c 2 (some 8))]
def c63 : CC :=
 (.seq (.reg [⟨(some 2), (.alloc (.agg [(.u32 0), (.u32 0), (.u32 0), (.u32 0), (.u32 0), (.u32 0), (.u32 0), (.u32 0)])), none, 2⟩]
 [])
 (.seq (.reg [⟨(some 3), (.alloc (.agg [(.u32 0), (.u32 0), (.u32 0), (.u32 0), (.u32 0), (.u32 0), (.u32 0), (.u32 0)])), none, 2⟩]
 [])
 (.seq (.seq (.reg [⟨(some 4), (.mov (.t 0)), none, 2⟩, ⟨(some 5), (.bin .lss (.t 4) (.c (.int 0))), none, 2⟩]
 [])
 (.cond (.t 5)
 (.seq (.reg [⟨(some 6), (.load (some 8) (.t 3)), none, 2⟩, ⟨none, (.store (some 8) (.t 2) (.t 6)), none, 2⟩]
 [])
 .ret)
 .skip))
 (.seq (.reg [⟨(some 7), (.mov (.t 0)), none, 2⟩, ⟨(some 8), (.conv .iu32 (.t 7)), none, 2⟩, ⟨(some 9), (.mov (.t 0)), none, 2⟩, ⟨(some 10), (.bin .shr (.t 9) (.c (.u64 32))), none, 2⟩, ⟨(some 11), (.conv .iu32 (.t 10)), none, 2⟩, ⟨(some 12), (.iadA 8 1 (.t 3) (.c (.int 0))), none, 2⟩, ⟨none, (.store none (.t 12) (.t 8)), none, 2⟩, ⟨(some 13), (.iadA 8 1 (.t 3) (.c (.int 1))), none, 2⟩, ⟨none, (.store none (.t 13) (.t 11)), none, 2⟩]
 [])
 (.seq (.reg [⟨(some 14), (.load (some 8) (.t 3)), none, 2⟩, ⟨none, (.store (some 8) (.t 2) (.t 14)), none, 2⟩]
 [])
 .ret)))))
theorem c63_ok : comp (tiOf Try.prog) mu63 [19, 21, 22, 25, 34, 38, 41, 42, 43, 46, 50, 56, 57, 58, 59, 62, 63, 65, 66, 71, 72, 73, 74, 75, 76] N63 (Try.f63.body.getD .skip) = c63 := by kernel_rfl
theorem b63 : Try.f63.body = some (Try.f63.body.getD .skip) := by kernel_rfl
theorem run63 {Γ : G} (hsp : SpOK Try.prog Γ.sp) {args : List AV} {h : List AO} {own : Bool} {kn : Nat} {K : AV → List AO → Prop} (hl : args.length ≤ N63) (hk0 : Γ.k0 = hlen h) (hkn : hlen h ≤ kn)
    (hrun : run Γ c63 (leafK Γ.sp res63 own kn K) [] (leafK Γ.sp res63 own kn K) (argS 0 args) h) (htn : Γ.tn ≤ N63 := by exact Nat.zero_le _)
    (hrf : ∀ F, rfind Γ.rf F = true → FdIter Try.prog F ∧ ∀ args w, (callFunc F args).run Try.prog w = .ok (.enter F args) w := by exact fun F h => absurd h (show ¬ (false = true) from Bool.false_ne_true)) : ACalls Try.prog 63 args h K :=
  acalls_of_run (tiOf_ok _) hsp follows Try.func63 b63 (rs := Try.f63.results.toList) (Array.toArray_toList).symm (by kernel_rfl) (by kernel_rfl) c63_ok (by kernel_rfl) hl hk0 htn hrf hkn hrun
theorem in63 : ∀ args w, (callFunc 63 args).run Try.prog w = .ok (.enter 63 args) w := callFunc_enter Try.func63 (by kernel_rfl) (by kernel_rfl)

/-- bytes.Clone -/
def N64 : Nat := 8
def mu64 : List Nat := []
def keep64 : List Nat := [0, 2, 4]
def res64 : List RV := [(.t 2)]
def c64 : CC :=
 (.seq (.reg [⟨(some 2), (.mov (.c (.sl true 0 0 (.agg []) true))), none, 2⟩]
 [])
 (.seq (.seq (.reg [⟨(some 3), (.mov (.t 0)), none, 2⟩, ⟨(some 4), (.eq false .slice (.t 3) (.c (.sl true 0 0 (.agg []) true))), none, 2⟩]
 [])
 (.cond (.t 4)
 (.seq (.reg [⟨(some 2), (.mov (.c (.sl true 0 0 (.agg []) true))), none, 2⟩]
 [])
 .ret)
 .skip))
 (.seq (.reg [⟨(some 5), (.bsl false .u8 1 0 [(.u8 0)] []), none, 2⟩, ⟨(some 6), (.mov (.t 0)), none, 2⟩, ⟨(some 7), (.app true 1 1 (.t 5) (.t 6)), none, 2⟩, ⟨(some 2), (.mov (.t 7)), none, 2⟩]
 [])
 .ret)))
theorem c64_ok : comp (tiOf Try.prog) mu64 [19, 21, 22, 25, 34, 38, 41, 42, 43, 46, 50, 56, 57, 58, 59, 62, 63, 65, 66, 71, 72, 73, 74, 75, 76] N64 (Try.f64.body.getD .skip) = c64 := by kernel_rfl
theorem b64 : Try.f64.body = some (Try.f64.body.getD .skip) := by kernel_rfl
theorem run64 {Γ : G} (hsp : SpOK Try.prog Γ.sp) {args : List AV} {h : List AO} {own : Bool} {kn : Nat} {K : AV → List AO → Prop} (hl : args.length ≤ N64) (hk0 : Γ.k0 = hlen h) (hkn : hlen h ≤ kn)
    (hrun : run Γ c64 (leafK Γ.sp res64 own kn K) [] (leafK Γ.sp res64 own kn K) (argS 0 args) h) (htn : Γ.tn ≤ N64 := by exact Nat.zero_le _)
    (hrf : ∀ F, rfind Γ.rf F = true → FdIter Try.prog F ∧ ∀ args w, (callFunc F args).run Try.prog w = .ok (.enter F args) w := by exact fun F h => absurd h (show ¬ (false = true) from Bool.false_ne_true)) : ACalls Try.prog 64 args h K :=
  acalls_of_run (tiOf_ok _) hsp follows Try.func64 b64 (rs := Try.f64.results.toList) (Array.toArray_toList).symm (by kernel_rfl) (by kernel_rfl) c64_ok (by kernel_rfl) hl hk0 htn hrf hkn hrun
theorem in64 : ∀ args w, (callFunc 64 args).run Try.prog w = .ok (.enter 64 args) w := callFunc_enter Try.func64 (by kernel_rfl) (by kernel_rfl)

/-- sentinel/sentinelref5.Four -/
def N65 : Nat := 6
def mu65 : List Nat := []
def keep65 : List Nat := [0, 1, 2]
def res65 : List RV := [(.t 2)]
def c65 : CC :=
 (.seq (.reg [⟨(some 1), (.box (.t 0)), none, 2⟩, ⟨(some 2), (.mov (.c (.sl true 0 0 (.agg []) true))), none, 2⟩]
 [])
 (.seq (.reg [⟨(some 3), (.load (some 8) (.t 1)), none, 2⟩, ⟨(some 4), (.call (.c (.fn 83 [])) [(.t 3)]), none, 2⟩, ⟨(some 5), (.slcS 1 (.t 4) (some (.c (.int 28))) none none), none, 2⟩, ⟨(some 2), (.mov (.t 5)), none, 2⟩]
 [])
 .ret))
theorem c65_ok : comp (tiOf Try.prog) mu65 [19, 21, 22, 25, 34, 38, 41, 42, 43, 46, 50, 56, 57, 58, 59, 62, 63, 65, 66, 71, 72, 73, 74, 75, 76] N65 (Try.f65.body.getD .skip) = c65 := by kernel_rfl
theorem b65 : Try.f65.body = some (Try.f65.body.getD .skip) := by kernel_rfl
theorem run65 {Γ : G} (hsp : SpOK Try.prog Γ.sp) {args : List AV} {h : List AO} {own : Bool} {kn : Nat} {K : AV → List AO → Prop} (hl : args.length ≤ N65) (hk0 : Γ.k0 = hlen h) (hkn : hlen h ≤ kn)
    (hrun : run Γ c65 (leafK Γ.sp res65 own kn K) [] (leafK Γ.sp res65 own kn K) (argS 0 args) h) (htn : Γ.tn ≤ N65 := by exact Nat.zero_le _)
    (hrf : ∀ F, rfind Γ.rf F = true → FdIter Try.prog F ∧ ∀ args w, (callFunc F args).run Try.prog w = .ok (.enter F args) w := by exact fun F h => absurd h (show ¬ (false = true) from Bool.false_ne_true)) : ACalls Try.prog 65 args h K :=
  acalls_of_run (tiOf_ok _) hsp follows Try.func65 b65 (rs := Try.f65.results.toList) (Array.toArray_toList).symm (by kernel_rfl) (by kernel_rfl) c65_ok (by kernel_rfl) hl hk0 htn hrf hkn hrun
theorem in65 : ∀ args w, (callFunc 65 args).run Try.prog w = .ok (.enter 65 args) w := callFunc_enter Try.func65 (by kernel_rfl) (by kernel_rfl)

/-- sentinel/sentinelref5.eight -/
def N66 : Nat := 20
def mu66 : List Nat := []
def keep66 : List Nat := [0, 2, 3, 4, 6]
def res66 : List RV := [(.t 2)]
def c66 : CC :=
 (.seq (.reg [⟨(some 2), (.mov (.c (.sl true 0 0 (.agg []) true))), none, 2⟩]
 [])
 (.seq (.reg [⟨(some 3), (.mov (.c (.sl true 0 0 (.agg []) true))), none, 2⟩]
 [])
 (.seq (.seq (.reg [⟨(some 4), (.mov (.c (.int 0))), none, 2⟩]
 [])
 (.block 0 (.loop (.seq (.seq (.reg [⟨(some 5), (.mov (.t 4)), none, 2⟩, ⟨(some 6), (.bin .lss (.t 5) (.c (.int 8))), none, 2⟩]
 [])
 (.cond (.t 6)
 .skip
 (.exit 0)))
 (.seq (.block 1 (.reg [⟨(some 9), (.mov (.t 3)), none, 2⟩, ⟨(some 10), (.mov (.t 0)), none, 2⟩, ⟨(some 11), (.mov (.t 4)), none, 2⟩, ⟨(some 12), (.bin .mul (.c (.int 8)) (.t 11)), none, 2⟩, ⟨(some 13), (.bin .sub (.c (.int 56)) (.t 12)), none, 2⟩, ⟨(some 14), (.conv .iu64 (.t 13)), none, 2⟩, ⟨(some 15), (.bin .shr (.t 10) (.t 14)), none, 2⟩, ⟨(some 16), (.conv .iu8 (.t 15)), none, 2⟩, ⟨(some 17), (.bsl false .u8 1 1 [(.u8 0)] [(0, (1, (.t 16)))]), none, 2⟩, ⟨(some 18), (.app true 1 1 (.t 9) (.t 17)), none, 2⟩, ⟨(some 3), (.mov (.t 18)), none, 2⟩]
 []))
 (.reg [⟨(some 7), (.mov (.t 4)), none, 2⟩, ⟨(some 8), (.bin .add (.t 7) (.c (.int 1))), none, 2⟩, ⟨(some 4), (.mov (.t 8)), none, 2⟩]
 []))))))
 (.seq (.reg [⟨(some 19), (.mov (.t 3)), none, 2⟩, ⟨(some 2), (.mov (.t 19)), none, 2⟩]
 [])
 .ret))))
theorem c66_ok : comp (tiOf Try.prog) mu66 [19, 21, 22, 25, 34, 38, 41, 42, 43, 46, 50, 56, 57, 58, 59, 62, 63, 65, 66, 71, 72, 73, 74, 75, 76] N66 (Try.f66.body.getD .skip) = c66 := by kernel_rfl
theorem b66 : Try.f66.body = some (Try.f66.body.getD .skip) := by kernel_rfl
theorem run66 {Γ : G} (hsp : SpOK Try.prog Γ.sp) {args : List AV} {h : List AO} {own : Bool} {kn : Nat} {K : AV → List AO → Prop} (hl : args.length ≤ N66) (hk0 : Γ.k0 = hlen h) (hkn : hlen h ≤ kn)
    (hrun : run Γ c66 (leafK Γ.sp res66 own kn K) [] (leafK Γ.sp res66 own kn K) (argS 0 args) h) (htn : Γ.tn ≤ N66 := by exact Nat.zero_le _)
    (hrf : ∀ F, rfind Γ.rf F = true → FdIter Try.prog F ∧ ∀ args w, (callFunc F args).run Try.prog w = .ok (.enter F args) w := by exact fun F h => absurd h (show ¬ (false = true) from Bool.false_ne_true)) : ACalls Try.prog 66 args h K :=
  acalls_of_run (tiOf_ok _) hsp follows Try.func66 b66 (rs := Try.f66.results.toList) (Array.toArray_toList).symm (by kernel_rfl) (by kernel_rfl) c66_ok (by kernel_rfl) hl hk0 htn hrf hkn hrun
theorem in66 : ∀ args w, (callFunc 66 args).run Try.prog w = .ok (.enter 66 args) w := callFunc_enter Try.func66 (by kernel_rfl) (by kernel_rfl)

/-- (*sentinel/wire.reader).num -/
def N67 : Nat := 15
def mu67 : List Nat := []
def keep67 : List Nat := [0, 1, 4, 5]
def res67 : List RV := [(.c 4 (some 8))]
def c67 : CC :=
 (.seq (.reg [⟨(some 4), (.alloc (.agg [(.u32 0), (.u32 0), (.u32 0), (.u32 0), (.u32 0), (.u32 0), (.u32 0), (.u32 0)])), none, 2⟩]
 [])
 (.seq (.reg [⟨(some 8), (.mov (.t 0)), none, 2⟩, ⟨(some 9), (.mov (.t 1)), none, 2⟩, ⟨(some 10), (.call (.c (.fn 51 [])) [(.t 8), (.t 9)]), none, 2⟩, ⟨(some 11), (.call (.c (.fn 84 [])) [(.t 10)]), none, 2⟩, ⟨(some 7), (.mov (.t 11)), none, 2⟩, ⟨(some 12), (.ext (.t 7) 0), none, 2⟩, ⟨(some 13), (.ext (.t 7) 1), none, 2⟩, ⟨(some 5), (.alloc (.agg [(.u32 0), (.u32 0), (.u32 0), (.u32 0), (.u32 0), (.u32 0), (.u32 0), (.u32 0)])), none, 2⟩, ⟨none, (.store (some 8) (.t 5) (.t 12)), none, 2⟩, ⟨(some 6), (.mov (.t 13)), none, 2⟩]
 [])
 (.seq (.reg [⟨(some 14), (.load (some 8) (.t 5)), none, 2⟩, ⟨none, (.store (some 8) (.t 4) (.t 14)), none, 2⟩]
 [])
 .ret)))
theorem c67_ok : comp (tiOf Try.prog) mu67 [19, 21, 22, 25, 34, 38, 41, 42, 43, 46, 50, 56, 57, 58, 59, 62, 63, 65, 66, 71, 72, 73, 74, 75, 76] N67 (Try.f67.body.getD .skip) = c67 := by kernel_rfl
theorem b67 : Try.f67.body = some (Try.f67.body.getD .skip) := by kernel_rfl
theorem run67 {Γ : G} (hsp : SpOK Try.prog Γ.sp) {args : List AV} {h : List AO} {own : Bool} {kn : Nat} {K : AV → List AO → Prop} (hl : args.length ≤ N67) (hk0 : Γ.k0 = hlen h) (hkn : hlen h ≤ kn)
    (hrun : run Γ c67 (leafK Γ.sp res67 own kn K) [] (leafK Γ.sp res67 own kn K) (argS 0 args) h) (htn : Γ.tn ≤ N67 := by exact Nat.zero_le _)
    (hrf : ∀ F, rfind Γ.rf F = true → FdIter Try.prog F ∧ ∀ args w, (callFunc F args).run Try.prog w = .ok (.enter F args) w := by exact fun F h => absurd h (show ¬ (false = true) from Bool.false_ne_true)) : ACalls Try.prog 67 args h K :=
  acalls_of_run (tiOf_ok _) hsp follows Try.func67 b67 (rs := Try.f67.results.toList) (Array.toArray_toList).symm (by kernel_rfl) (by kernel_rfl) c67_ok (by kernel_rfl) hl hk0 htn hrf hkn hrun
theorem in67 : ∀ args w, (callFunc 67 args).run Try.prog w = .ok (.enter 67 args) w := callFunc_enter Try.func67 (by kernel_rfl) (by kernel_rfl)

/-- sentinel/sentinelref5.number -/
def N68 : Nat := 24
def mu68 : List Nat := []
def keep68 : List Nat := [0, 2, 3, 4, 12]
def res68 : List RV := [(.t 2)]
def c68 : CC :=
 (.seq (.reg [⟨(some 2), (.mov (.c (.int 0))), none, 2⟩]
 [])
 (.seq (.reg [⟨(some 3), (.mov (.c (.int 0))), none, 2⟩]
 [])
 (.seq (.seq (.reg [⟨(some 4), (.mov (.c (.int 0))), none, 2⟩]
 [])
 (.block 0 (.loop (.seq (.seq (.reg [⟨(some 5), (.mov (.t 4)), none, 2⟩, ⟨(some 6), (.mov (.t 0)), none, 2⟩, ⟨(some 7), (.len false (.t 6)), none, 2⟩, ⟨(some 8), (.bin .lss (.t 5) (.t 7)), none, 2⟩, ⟨(some 9), (.mov (.t 8)), none, 2⟩, ⟨(some 10), (.mov (.t 4)), (some (9, true)), 2⟩, ⟨(some 11), (.bin .lss (.t 10) (.c (.int 8))), (some (9, true)), 2⟩, ⟨(some 12), (.pick (.t 9) (.t 11) (.c (.bool false))), none, 2⟩]
 [])
 (.cond (.t 12)
 .skip
 (.exit 0)))
 (.seq (.block 1 (.reg [⟨(some 15), (.mov (.t 3)), none, 2⟩, ⟨(some 16), (.bin .shl (.t 15) (.c (.u64 8))), none, 2⟩, ⟨(some 17), (.mov (.t 0)), none, 2⟩, ⟨(some 18), (.mov (.t 4)), none, 2⟩, ⟨(some 19), (.iadS 1 (.t 17) (.t 18)), none, 2⟩, ⟨(some 20), (.load none (.t 19)), none, 2⟩, ⟨(some 21), (.conv .u8i (.t 20)), none, 2⟩, ⟨(some 22), (.bin .or (.t 16) (.t 21)), none, 2⟩, ⟨(some 3), (.mov (.t 22)), none, 2⟩]
 []))
 (.reg [⟨(some 13), (.mov (.t 4)), none, 2⟩, ⟨(some 14), (.bin .add (.t 13) (.c (.int 1))), none, 2⟩, ⟨(some 4), (.mov (.t 14)), none, 2⟩]
 []))))))
 (.seq (.reg [⟨(some 23), (.mov (.t 3)), none, 2⟩, ⟨(some 2), (.mov (.t 23)), none, 2⟩]
 [])
 .ret))))
theorem c68_ok : comp (tiOf Try.prog) mu68 [19, 21, 22, 25, 34, 38, 41, 42, 43, 46, 50, 56, 57, 58, 59, 62, 63, 65, 66, 71, 72, 73, 74, 75, 76] N68 (Try.f68.body.getD .skip) = c68 := by kernel_rfl
theorem b68 : Try.f68.body = some (Try.f68.body.getD .skip) := by kernel_rfl
theorem run68 {Γ : G} (hsp : SpOK Try.prog Γ.sp) {args : List AV} {h : List AO} {own : Bool} {kn : Nat} {K : AV → List AO → Prop} (hl : args.length ≤ N68) (hk0 : Γ.k0 = hlen h) (hkn : hlen h ≤ kn)
    (hrun : run Γ c68 (leafK Γ.sp res68 own kn K) [] (leafK Γ.sp res68 own kn K) (argS 0 args) h) (htn : Γ.tn ≤ N68 := by exact Nat.zero_le _)
    (hrf : ∀ F, rfind Γ.rf F = true → FdIter Try.prog F ∧ ∀ args w, (callFunc F args).run Try.prog w = .ok (.enter F args) w := by exact fun F h => absurd h (show ¬ (false = true) from Bool.false_ne_true)) : ACalls Try.prog 68 args h K :=
  acalls_of_run (tiOf_ok _) hsp follows Try.func68 b68 (rs := Try.f68.results.toList) (Array.toArray_toList).symm (by kernel_rfl) (by kernel_rfl) c68_ok (by kernel_rfl) hl hk0 htn hrf hkn hrun
theorem in68 : ∀ args w, (callFunc 68 args).run Try.prog w = .ok (.enter 68 args) w := callFunc_enter Try.func68 (by kernel_rfl) (by kernel_rfl)

/-- (*sentinel/sentinelref5.reader).take -/
def N69 : Nat := 39
def mu69 : List Nat := []
def keep69 : List Nat := [0, 1, 4, 5, 12]
def res69 : List RV := [(.t 4)]
def c69 : CC :=
 (.seq (.reg [⟨(some 4), (.mov (.c (.sl true 0 0 (.agg []) true))), none, 2⟩]
 [])
 (.seq (.seq (.reg [⟨(some 6), (.mov (.t 1)), none, 2⟩, ⟨(some 7), (.mov (.t 0)), none, 2⟩, ⟨(some 8), (.nilck (.t 7)), none, 2⟩, ⟨(some 9), (.fad 0 (.t 8)), none, 2⟩, ⟨(some 10), (.load none (.t 9)), none, 2⟩, ⟨(some 11), (.len false (.t 10)), none, 2⟩, ⟨(some 12), (.bin .gtr (.t 6) (.t 11)), none, 2⟩]
 [])
 (.cond (.t 12)
 (.seq (.reg [⟨(some 13), (.mov (.t 0)), none, 2⟩, ⟨(some 14), (.mov (.t 0)), none, 2⟩, ⟨(some 15), (.nilck (.t 13)), none, 2⟩, ⟨(some 16), (.fad 1 (.t 15)), none, 2⟩, ⟨none, (.store none (.t 16) (.c (.bool true))), none, 2⟩, ⟨(some 17), (.nilck (.t 14)), none, 2⟩, ⟨(some 18), (.fad 0 (.t 17)), none, 2⟩, ⟨none, (.store none (.t 18) (.c (.sl true 0 0 (.agg []) true))), none, 2⟩]
 [])
 (.seq (.reg [⟨(some 19), (.mov (.t 1)), none, 2⟩, ⟨(some 20), (.mksl .u8 1 1 [(.u8 0)] (.t 19) (.t 19)), none, 2⟩, ⟨(some 4), (.mov (.t 20)), none, 2⟩]
 [])
 .ret))
 .skip))
 (.seq (.reg [⟨(some 21), (.bsl false .u8 1 0 [(.u8 0)] []), none, 2⟩, ⟨(some 22), (.mov (.t 0)), none, 2⟩, ⟨(some 23), (.nilck (.t 22)), none, 2⟩, ⟨(some 24), (.fad 0 (.t 23)), none, 2⟩, ⟨(some 25), (.load none (.t 24)), none, 2⟩, ⟨(some 26), (.mov (.t 1)), none, 2⟩, ⟨(some 27), (.slcS 1 (.t 25) none (some (.t 26)) none), none, 2⟩, ⟨(some 28), (.app true 1 1 (.t 21) (.t 27)), none, 2⟩, ⟨(some 5), (.mov (.t 28)), none, 2⟩]
 [])
 (.seq (.reg [⟨(some 29), (.mov (.t 0)), none, 2⟩, ⟨(some 30), (.mov (.t 0)), none, 2⟩, ⟨(some 31), (.nilck (.t 30)), none, 2⟩, ⟨(some 32), (.fad 0 (.t 31)), none, 2⟩, ⟨(some 33), (.load none (.t 32)), none, 2⟩, ⟨(some 34), (.mov (.t 1)), none, 2⟩, ⟨(some 35), (.slcS 1 (.t 33) (some (.t 34)) none none), none, 2⟩, ⟨(some 36), (.nilck (.t 29)), none, 2⟩, ⟨(some 37), (.fad 0 (.t 36)), none, 2⟩, ⟨none, (.store none (.t 37) (.t 35)), none, 2⟩]
 [])
 (.seq (.reg [⟨(some 38), (.mov (.t 5)), none, 2⟩, ⟨(some 4), (.mov (.t 38)), none, 2⟩]
 [])
 .ret)))))
theorem c69_ok : comp (tiOf Try.prog) mu69 [19, 21, 22, 25, 34, 38, 41, 42, 43, 46, 50, 56, 57, 58, 59, 62, 63, 65, 66, 71, 72, 73, 74, 75, 76] N69 (Try.f69.body.getD .skip) = c69 := by kernel_rfl
theorem b69 : Try.f69.body = some (Try.f69.body.getD .skip) := by kernel_rfl
theorem run69 {Γ : G} (hsp : SpOK Try.prog Γ.sp) {args : List AV} {h : List AO} {own : Bool} {kn : Nat} {K : AV → List AO → Prop} (hl : args.length ≤ N69) (hk0 : Γ.k0 = hlen h) (hkn : hlen h ≤ kn)
    (hrun : run Γ c69 (leafK Γ.sp res69 own kn K) [] (leafK Γ.sp res69 own kn K) (argS 0 args) h) (htn : Γ.tn ≤ N69 := by exact Nat.zero_le _)
    (hrf : ∀ F, rfind Γ.rf F = true → FdIter Try.prog F ∧ ∀ args w, (callFunc F args).run Try.prog w = .ok (.enter F args) w := by exact fun F h => absurd h (show ¬ (false = true) from Bool.false_ne_true)) : ACalls Try.prog 69 args h K :=
  acalls_of_run (tiOf_ok _) hsp follows Try.func69 b69 (rs := Try.f69.results.toList) (Array.toArray_toList).symm (by kernel_rfl) (by kernel_rfl) c69_ok (by kernel_rfl) hl hk0 htn hrf hkn hrun
theorem in69 : ∀ args w, (callFunc 69 args).run Try.prog w = .ok (.enter 69 args) w := callFunc_enter Try.func69 (by kernel_rfl) (by kernel_rfl)

/-- sentinel/sentinelref1.Read -/
def N70 : Nat := 41
def mu70 : List Nat := []
def keep70 : List Nat := [0, 2, 3, 4, 5, 6, 9, 14]
def res70 : List RV := [(.c 2 (some 8)), (.t 3)]
def c70 : CC :=
 (.seq (.reg [⟨(some 2), (.alloc (.agg [(.u32 0), (.u32 0), (.u32 0), (.u32 0), (.u32 0), (.u32 0), (.u32 0), (.u32 0)])), none, 2⟩, ⟨(some 3), (.mov (.c (.bool false))), none, 2⟩]
 [])
 (.seq (.reg [⟨(some 4), (.alloc (.agg [(.u32 0), (.u32 0), (.u32 0), (.u32 0), (.u32 0), (.u32 0), (.u32 0), (.u32 0)])), none, 2⟩]
 [])
 (.seq (.seq (.reg [⟨(some 7), (.mov (.t 0)), none, 2⟩, ⟨(some 8), (.len false (.t 7)), none, 2⟩, ⟨(some 9), (.bin .gtr (.t 8) (.c (.int 32))), none, 2⟩]
 [])
 (.cond (.t 9)
 (.seq (.reg [⟨(some 10), (.load (some 8) (.t 4)), none, 2⟩, ⟨none, (.store (some 8) (.t 2) (.t 10)), none, 2⟩, ⟨(some 3), (.mov (.c (.bool false))), none, 2⟩]
 [])
 .ret)
 .skip))
 (.seq (.seq (.reg [⟨(some 5), (.mov (.c (.int 0))), none, 2⟩]
 [])
 (.block 0 (.loop (.seq (.seq (.reg [⟨(some 11), (.mov (.t 5)), none, 2⟩, ⟨(some 12), (.mov (.t 0)), none, 2⟩, ⟨(some 13), (.len false (.t 12)), none, 2⟩, ⟨(some 14), (.bin .lss (.t 11) (.t 13)), none, 2⟩]
 [])
 (.cond (.t 14)
 .skip
 (.exit 0)))
 (.seq (.block 1 (.seq (.reg [⟨(some 17), (.mov (.t 0)), none, 2⟩, ⟨(some 18), (.len false (.t 17)), none, 2⟩, ⟨(some 19), (.bin .sub (.t 18) (.c (.int 1))), none, 2⟩, ⟨(some 20), (.mov (.t 5)), none, 2⟩, ⟨(some 21), (.bin .sub (.t 19) (.t 20)), none, 2⟩, ⟨(some 6), (.mov (.t 21)), none, 2⟩]
 [])
 (.reg [⟨(some 22), (.mov (.t 6)), none, 0⟩, ⟨(some 23), (.bin .quo (.t 22) (.c (.int 4))), none, 0⟩, ⟨(some 24), (.mov (.t 6)), none, 0⟩, ⟨(some 25), (.bin .quo (.t 24) (.c (.int 4))), none, 0⟩, ⟨(some 26), (.iadA 8 1 (.t 4) (.t 25)), none, 0⟩, ⟨(some 27), (.load none (.t 26)), none, 1⟩, ⟨(some 28), (.mov (.t 0)), none, 0⟩, ⟨(some 29), (.mov (.t 5)), none, 0⟩, ⟨(some 30), (.iadS 1 (.t 28) (.t 29)), none, 0⟩, ⟨(some 31), (.load none (.t 30)), none, 1⟩, ⟨(some 32), (.conv .u8u32 (.t 31)), none, 0⟩, ⟨(some 33), (.mov (.t 6)), none, 0⟩, ⟨(some 34), (.bin .rem (.t 33) (.c (.int 4))), none, 0⟩, ⟨(some 35), (.bin .mul (.c (.int 8)) (.t 34)), none, 0⟩, ⟨(some 36), (.conv .iu64 (.t 35)), none, 0⟩, ⟨(some 37), (.bin .shl (.t 32) (.t 36)), none, 0⟩, ⟨(some 38), (.bin .or (.t 27) (.t 37)), none, 0⟩, ⟨(some 39), (.iadA 8 1 (.t 4) (.t 23)), none, 0⟩, ⟨none, (.store none (.t 39) (.t 38)), none, 2⟩]
 [])))
 (.reg [⟨(some 15), (.mov (.t 5)), none, 2⟩, ⟨(some 16), (.bin .add (.t 15) (.c (.int 1))), none, 2⟩, ⟨(some 5), (.mov (.t 16)), none, 2⟩]
 []))))))
 (.seq (.reg [⟨(some 40), (.load (some 8) (.t 4)), none, 2⟩, ⟨none, (.store (some 8) (.t 2) (.t 40)), none, 2⟩, ⟨(some 3), (.mov (.c (.bool true))), none, 2⟩]
 [])
 .ret)))))
theorem c70_ok : comp (tiOf Try.prog) mu70 [19, 21, 22, 25, 34, 38, 41, 42, 43, 46, 50, 56, 57, 58, 59, 62, 63, 65, 66, 71, 72, 73, 74, 75, 76] N70 (Try.f70.body.getD .skip) = c70 := by kernel_rfl
theorem b70 : Try.f70.body = some (Try.f70.body.getD .skip) := by kernel_rfl
theorem run70 {Γ : G} (hsp : SpOK Try.prog Γ.sp) {args : List AV} {h : List AO} {own : Bool} {kn : Nat} {K : AV → List AO → Prop} (hl : args.length ≤ N70) (hk0 : Γ.k0 = hlen h) (hkn : hlen h ≤ kn)
    (hrun : run Γ c70 (leafK Γ.sp res70 own kn K) [] (leafK Γ.sp res70 own kn K) (argS 0 args) h) (htn : Γ.tn ≤ N70 := by exact Nat.zero_le _)
    (hrf : ∀ F, rfind Γ.rf F = true → FdIter Try.prog F ∧ ∀ args w, (callFunc F args).run Try.prog w = .ok (.enter F args) w := by exact fun F h => absurd h (show ¬ (false = true) from Bool.false_ne_true)) : ACalls Try.prog 70 args h K :=
  acalls_of_run (tiOf_ok _) hsp follows Try.func70 b70 (rs := Try.f70.results.toList) (Array.toArray_toList).symm (by kernel_rfl) (by kernel_rfl) c70_ok (by kernel_rfl) hl hk0 htn hrf hkn hrun
theorem in70 : ∀ args w, (callFunc 70 args).run Try.prog w = .ok (.enter 70 args) w := callFunc_enter Try.func70 (by kernel_rfl) (by kernel_rfl)

/-- sentinel/sentinellaw1.within -/
def N71 : Nat := 15
def mu71 : List Nat := []
def keep71 : List Nat := [0, 1, 4, 5, 10]
def res71 : List RV := [(.t 4)]
def c71 : CC :=
 (.seq (.reg [⟨(some 4), (.mov (.c (.int 0))), none, 2⟩]
 [])
 (.seq (.reg [⟨(some 6), (.mov (.t 0)), none, 2⟩, ⟨(some 7), (.mov (.t 1)), none, 2⟩, ⟨(some 8), (.bin .rem (.t 6) (.t 7)), none, 2⟩, ⟨(some 5), (.mov (.t 8)), none, 2⟩]
 [])
 (.seq (.seq (.reg [⟨(some 9), (.mov (.t 5)), none, 2⟩, ⟨(some 10), (.bin .lss (.t 9) (.c (.int 0))), none, 2⟩]
 [])
 (.cond (.t 10)
 (.reg [⟨(some 11), (.mov (.t 5)), none, 2⟩, ⟨(some 12), (.mov (.t 1)), none, 2⟩, ⟨(some 13), (.bin .add (.t 11) (.t 12)), none, 2⟩, ⟨(some 5), (.mov (.t 13)), none, 2⟩]
 [])
 .skip))
 (.seq (.reg [⟨(some 14), (.mov (.t 5)), none, 2⟩, ⟨(some 4), (.mov (.t 14)), none, 2⟩]
 [])
 .ret))))
theorem c71_ok : comp (tiOf Try.prog) mu71 [19, 21, 22, 25, 34, 38, 41, 42, 43, 46, 50, 56, 57, 58, 59, 62, 63, 65, 66, 71, 72, 73, 74, 75, 76] N71 (Try.f71.body.getD .skip) = c71 := by kernel_rfl
theorem b71 : Try.f71.body = some (Try.f71.body.getD .skip) := by kernel_rfl
theorem run71 {Γ : G} (hsp : SpOK Try.prog Γ.sp) {args : List AV} {h : List AO} {own : Bool} {kn : Nat} {K : AV → List AO → Prop} (hl : args.length ≤ N71) (hk0 : Γ.k0 = hlen h) (hkn : hlen h ≤ kn)
    (hrun : run Γ c71 (leafK Γ.sp res71 own kn K) [] (leafK Γ.sp res71 own kn K) (argS 0 args) h) (htn : Γ.tn ≤ N71 := by exact Nat.zero_le _)
    (hrf : ∀ F, rfind Γ.rf F = true → FdIter Try.prog F ∧ ∀ args w, (callFunc F args).run Try.prog w = .ok (.enter F args) w := by exact fun F h => absurd h (show ¬ (false = true) from Bool.false_ne_true)) : ACalls Try.prog 71 args h K :=
  acalls_of_run (tiOf_ok _) hsp follows Try.func71 b71 (rs := Try.f71.results.toList) (Array.toArray_toList).symm (by kernel_rfl) (by kernel_rfl) c71_ok (by kernel_rfl) hl hk0 htn hrf hkn hrun
theorem in71 : ∀ args w, (callFunc 71 args).run Try.prog w = .ok (.enter 71 args) w := callFunc_enter Try.func71 (by kernel_rfl) (by kernel_rfl)

/-- sentinel/sentinelref1.bit -/
def N72 : Nat := 14
def mu72 : List Nat := []
def keep72 : List Nat := [0, 1, 2, 4]
def res72 : List RV := [(.t 4)]
def c72 : CC :=
 (.seq (.reg [⟨(some 2), (.box (.t 0)), none, 2⟩, ⟨(some 4), (.mov (.c (.u32 0))), none, 2⟩]
 [])
 (.seq (.reg [⟨(some 5), (.mov (.t 1)), none, 2⟩, ⟨(some 6), (.bin .quo (.t 5) (.c (.int 32))), none, 2⟩, ⟨(some 7), (.iadA 8 1 (.t 2) (.t 6)), none, 2⟩, ⟨(some 8), (.load none (.t 7)), none, 2⟩, ⟨(some 9), (.mov (.t 1)), none, 2⟩, ⟨(some 10), (.bin .rem (.t 9) (.c (.int 32))), none, 2⟩, ⟨(some 11), (.conv .iu64 (.t 10)), none, 2⟩, ⟨(some 12), (.bin .shr (.t 8) (.t 11)), none, 2⟩, ⟨(some 13), (.bin .and (.t 12) (.c (.u32 1))), none, 2⟩, ⟨(some 4), (.mov (.t 13)), none, 2⟩]
 [])
 .ret))
theorem c72_ok : comp (tiOf Try.prog) mu72 [19, 21, 22, 25, 34, 38, 41, 42, 43, 46, 50, 56, 57, 58, 59, 62, 63, 65, 66, 71, 72, 73, 74, 75, 76] N72 (Try.f72.body.getD .skip) = c72 := by kernel_rfl
theorem b72 : Try.f72.body = some (Try.f72.body.getD .skip) := by kernel_rfl
theorem run72 {Γ : G} (hsp : SpOK Try.prog Γ.sp) {args : List AV} {h : List AO} {own : Bool} {kn : Nat} {K : AV → List AO → Prop} (hl : args.length ≤ N72) (hk0 : Γ.k0 = hlen h) (hkn : hlen h ≤ kn)
    (hrun : run Γ c72 (leafK Γ.sp res72 own kn K) [] (leafK Γ.sp res72 own kn K) (argS 0 args) h) (htn : Γ.tn ≤ N72 := by exact Nat.zero_le _)
    (hrf : ∀ F, rfind Γ.rf F = true → FdIter Try.prog F ∧ ∀ args w, (callFunc F args).run Try.prog w = .ok (.enter F args) w := by exact fun F h => absurd h (show ¬ (false = true) from Bool.false_ne_true)) : ACalls Try.prog 72 args h K :=
  acalls_of_run (tiOf_ok _) hsp follows Try.func72 b72 (rs := Try.f72.results.toList) (Array.toArray_toList).symm (by kernel_rfl) (by kernel_rfl) c72_ok (by kernel_rfl) hl hk0 htn hrf hkn hrun
theorem in72 : ∀ args w, (callFunc 72 args).run Try.prog w = .ok (.enter 72 args) w := callFunc_enter Try.func72 (by kernel_rfl) (by kernel_rfl)

/-- sentinel/wire.whole -/
def N73 : Nat := 11
def mu73 : List Nat := []
def keep73 : List Nat := [0, 1, 4, 6]
def res73 : List RV := [(.t 4)]
def c73 : CC :=
 (.seq (.reg [⟨(some 4), (.mov (.c (.sl true 0 0 (.agg []) true))), none, 2⟩]
 [])
 (.seq (.seq (.reg [⟨(some 5), (.mov (.t 0)), none, 2⟩, ⟨(some 6), (.eq false .sc (.t 5) (.c (.int 0))), none, 2⟩]
 [])
 (.cond (.t 6)
 (.seq (.reg [⟨(some 4), (.mov (.c (.sl true 0 0 (.agg []) true))), none, 2⟩]
 [])
 .ret)
 .skip))
 (.seq (.reg [⟨(some 7), (.mov (.t 0)), none, 2⟩, ⟨(some 8), (.call (.c (.fn 63 [])) [(.t 7)]), none, 2⟩, ⟨(some 9), (.mov (.t 1)), none, 2⟩, ⟨(some 10), (.call (.c (.fn 62 [])) [(.t 8), (.t 9)]), none, 2⟩, ⟨(some 4), (.mov (.t 10)), none, 2⟩]
 [])
 .ret)))
theorem c73_ok : comp (tiOf Try.prog) mu73 [19, 21, 22, 25, 34, 38, 41, 42, 43, 46, 50, 56, 57, 58, 59, 62, 63, 65, 66, 71, 72, 73, 74, 75, 76] N73 (Try.f73.body.getD .skip) = c73 := by kernel_rfl
theorem b73 : Try.f73.body = some (Try.f73.body.getD .skip) := by kernel_rfl
theorem run73 {Γ : G} (hsp : SpOK Try.prog Γ.sp) {args : List AV} {h : List AO} {own : Bool} {kn : Nat} {K : AV → List AO → Prop} (hl : args.length ≤ N73) (hk0 : Γ.k0 = hlen h) (hkn : hlen h ≤ kn)
    (hrun : run Γ c73 (leafK Γ.sp res73 own kn K) [] (leafK Γ.sp res73 own kn K) (argS 0 args) h) (htn : Γ.tn ≤ N73 := by exact Nat.zero_le _)
    (hrf : ∀ F, rfind Γ.rf F = true → FdIter Try.prog F ∧ ∀ args w, (callFunc F args).run Try.prog w = .ok (.enter F args) w := by exact fun F h => absurd h (show ¬ (false = true) from Bool.false_ne_true)) : ACalls Try.prog 73 args h K :=
  acalls_of_run (tiOf_ok _) hsp follows Try.func73 b73 (rs := Try.f73.results.toList) (Array.toArray_toList).symm (by kernel_rfl) (by kernel_rfl) c73_ok (by kernel_rfl) hl hk0 htn hrf hkn hrun
theorem in73 : ∀ args w, (callFunc 73 args).run Try.prog w = .ok (.enter 73 args) w := callFunc_enter Try.func73 (by kernel_rfl) (by kernel_rfl)

/-- sentinel/wire.some[string] -/
def N74 : Nat := 15
def mu74 : List Nat := []
def keep74 : List Nat := [0, 1, 2, 6]
def res74 : List RV := [(.c 6 (some 3))]
def c74 : CC :=
 (.seq (.reg [⟨(some 6), (.alloc (.agg [(.int 0), (.sl true 0 0 (.agg []) true), (.bool false)])), none, 2⟩]
 [])
 (.seq (.reg [⟨(some 7), (.mov (.t 0)), none, 2⟩, ⟨(some 8), (.mov (.t 1)), none, 2⟩, ⟨(some 9), (.conv (.strb false) (.t 8)), none, 2⟩, ⟨(some 10), (.mov (.t 1)), none, 2⟩, ⟨(some 11), (.len true (.t 10)), none, 2⟩, ⟨(some 12), (.mov (.t 2)), none, 2⟩, ⟨(some 13), (.bin .leq (.t 11) (.t 12)), none, 2⟩, ⟨(some 14), (.build [(.int 0), (.sl true 0 0 (.agg []) true), (.bool false)] [(0, (1, (.t 7))), (1, (1, (.t 9))), (2, (1, (.t 13)))]), none, 2⟩, ⟨none, (.store (some 3) (.t 6) (.t 14)), none, 2⟩]
 [])
 .ret))
theorem c74_ok : comp (tiOf Try.prog) mu74 [19, 21, 22, 25, 34, 38, 41, 42, 43, 46, 50, 56, 57, 58, 59, 62, 63, 65, 66, 71, 72, 73, 74, 75, 76] N74 (Try.f74.body.getD .skip) = c74 := by kernel_rfl
theorem b74 : Try.f74.body = some (Try.f74.body.getD .skip) := by kernel_rfl
theorem run74 {Γ : G} (hsp : SpOK Try.prog Γ.sp) {args : List AV} {h : List AO} {own : Bool} {kn : Nat} {K : AV → List AO → Prop} (hl : args.length ≤ N74) (hk0 : Γ.k0 = hlen h) (hkn : hlen h ≤ kn)
    (hrun : run Γ c74 (leafK Γ.sp res74 own kn K) [] (leafK Γ.sp res74 own kn K) (argS 0 args) h) (htn : Γ.tn ≤ N74 := by exact Nat.zero_le _)
    (hrf : ∀ F, rfind Γ.rf F = true → FdIter Try.prog F ∧ ∀ args w, (callFunc F args).run Try.prog w = .ok (.enter F args) w := by exact fun F h => absurd h (show ¬ (false = true) from Bool.false_ne_true)) : ACalls Try.prog 74 args h K :=
  acalls_of_run (tiOf_ok _) hsp follows Try.func74 b74 (rs := Try.f74.results.toList) (Array.toArray_toList).symm (by kernel_rfl) (by kernel_rfl) c74_ok (by kernel_rfl) hl hk0 htn hrf hkn hrun
theorem in74 : ∀ args w, (callFunc 74 args).run Try.prog w = .ok (.enter 74 args) w := callFunc_enter Try.func74 (by kernel_rfl) (by kernel_rfl)

/-- sentinel/wire.four -/
def N75 : Nat := 17
def mu75 : List Nat := []
def keep75 : List Nat := [0, 1, 3, 4, 5, 10]
def res75 : List RV := [(.c 4 (some 3))]
def c75 : CC :=
 (.seq (.reg [⟨(some 3), (.box (.t 1)), none, 2⟩, ⟨(some 4), (.alloc (.agg [(.int 0), (.sl true 0 0 (.agg []) true), (.bool false)])), none, 2⟩]
 [])
 (.seq (.reg [⟨(some 6), (.load (some 8) (.t 3)), none, 2⟩, ⟨(some 7), (.call (.c (.fn 62 [])) [(.t 6), (.c (.int 4))]), none, 2⟩, ⟨(some 5), (.mov (.t 7)), none, 2⟩]
 [])
 (.seq (.seq (.reg [⟨(some 8), (.load (some 8) (.t 3)), none, 2⟩, ⟨(some 9), (.build [(.u32 0), (.u32 0), (.u32 0), (.u32 0), (.u32 0), (.u32 0), (.u32 0), (.u32 0)] []), none, 2⟩, ⟨(some 10), (.eq false (.arr 8) (.t 8) (.t 9)), none, 2⟩]
 [])
 (.cond (.t 10)
 (.reg [⟨(some 5), (.mov (.c (.sl true 0 0 (.agg []) true))), none, 2⟩]
 [])
 .skip))
 (.seq (.reg [⟨(some 11), (.mov (.t 0)), none, 2⟩, ⟨(some 12), (.mov (.t 5)), none, 2⟩, ⟨(some 13), (.load (some 8) (.t 3)), none, 2⟩, ⟨(some 14), (.call (.c (.fn 61 [])) [(.t 13)]), none, 2⟩, ⟨(some 15), (.bin .leq (.t 14) (.c (.int 32))), none, 2⟩, ⟨(some 16), (.build [(.int 0), (.sl true 0 0 (.agg []) true), (.bool false)] [(0, (1, (.t 11))), (1, (1, (.t 12))), (2, (1, (.t 15)))]), none, 2⟩, ⟨none, (.store (some 3) (.t 4) (.t 16)), none, 2⟩]
 [])
 .ret))))
theorem c75_ok : comp (tiOf Try.prog) mu75 [19, 21, 22, 25, 34, 38, 41, 42, 43, 46, 50, 56, 57, 58, 59, 62, 63, 65, 66, 71, 72, 73, 74, 75, 76] N75 (Try.f75.body.getD .skip) = c75 := by kernel_rfl
theorem b75 : Try.f75.body = some (Try.f75.body.getD .skip) := by kernel_rfl
theorem run75 {Γ : G} (hsp : SpOK Try.prog Γ.sp) {args : List AV} {h : List AO} {own : Bool} {kn : Nat} {K : AV → List AO → Prop} (hl : args.length ≤ N75) (hk0 : Γ.k0 = hlen h) (hkn : hlen h ≤ kn)
    (hrun : run Γ c75 (leafK Γ.sp res75 own kn K) [] (leafK Γ.sp res75 own kn K) (argS 0 args) h) (htn : Γ.tn ≤ N75 := by exact Nat.zero_le _)
    (hrf : ∀ F, rfind Γ.rf F = true → FdIter Try.prog F ∧ ∀ args w, (callFunc F args).run Try.prog w = .ok (.enter F args) w := by exact fun F h => absurd h (show ¬ (false = true) from Bool.false_ne_true)) : ACalls Try.prog 75 args h K :=
  acalls_of_run (tiOf_ok _) hsp follows Try.func75 b75 (rs := Try.f75.results.toList) (Array.toArray_toList).symm (by kernel_rfl) (by kernel_rfl) c75_ok (by kernel_rfl) hl hk0 htn hrf hkn hrun
theorem in75 : ∀ args w, (callFunc 75 args).run Try.prog w = .ok (.enter 75 args) w := callFunc_enter Try.func75 (by kernel_rfl) (by kernel_rfl)

/-- sentinel/wire.some[[]byte] -/
def N76 : Nat := 14
def mu76 : List Nat := []
def keep76 : List Nat := [0, 1, 2, 6]
def res76 : List RV := [(.c 6 (some 3))]
def c76 : CC :=
 (.seq (.reg [⟨(some 6), (.alloc (.agg [(.int 0), (.sl true 0 0 (.agg []) true), (.bool false)])), none, 2⟩]
 [])
 (.seq (.reg [⟨(some 7), (.mov (.t 0)), none, 2⟩, ⟨(some 8), (.mov (.t 1)), none, 2⟩, ⟨(some 9), (.mov (.t 1)), none, 2⟩, ⟨(some 10), (.len false (.t 9)), none, 2⟩, ⟨(some 11), (.mov (.t 2)), none, 2⟩, ⟨(some 12), (.bin .leq (.t 10) (.t 11)), none, 2⟩, ⟨(some 13), (.build [(.int 0), (.sl true 0 0 (.agg []) true), (.bool false)] [(0, (1, (.t 7))), (1, (1, (.t 8))), (2, (1, (.t 12)))]), none, 2⟩, ⟨none, (.store (some 3) (.t 6) (.t 13)), none, 2⟩]
 [])
 .ret))
theorem c76_ok : comp (tiOf Try.prog) mu76 [19, 21, 22, 25, 34, 38, 41, 42, 43, 46, 50, 56, 57, 58, 59, 62, 63, 65, 66, 71, 72, 73, 74, 75, 76] N76 (Try.f76.body.getD .skip) = c76 := by kernel_rfl
theorem b76 : Try.f76.body = some (Try.f76.body.getD .skip) := by kernel_rfl
theorem run76 {Γ : G} (hsp : SpOK Try.prog Γ.sp) {args : List AV} {h : List AO} {own : Bool} {kn : Nat} {K : AV → List AO → Prop} (hl : args.length ≤ N76) (hk0 : Γ.k0 = hlen h) (hkn : hlen h ≤ kn)
    (hrun : run Γ c76 (leafK Γ.sp res76 own kn K) [] (leafK Γ.sp res76 own kn K) (argS 0 args) h) (htn : Γ.tn ≤ N76 := by exact Nat.zero_le _)
    (hrf : ∀ F, rfind Γ.rf F = true → FdIter Try.prog F ∧ ∀ args w, (callFunc F args).run Try.prog w = .ok (.enter F args) w := by exact fun F h => absurd h (show ¬ (false = true) from Bool.false_ne_true)) : ACalls Try.prog 76 args h K :=
  acalls_of_run (tiOf_ok _) hsp follows Try.func76 b76 (rs := Try.f76.results.toList) (Array.toArray_toList).symm (by kernel_rfl) (by kernel_rfl) c76_ok (by kernel_rfl) hl hk0 htn hrf hkn hrun
theorem in76 : ∀ args w, (callFunc 76 args).run Try.prog w = .ok (.enter 76 args) w := callFunc_enter Try.func76 (by kernel_rfl) (by kernel_rfl)

/-- slices.Values[[]sentinel/wire.field,sentinel/wire.field] -/
def N77 : Nat := 4
def mu77 : List Nat := []
def keep77 : List Nat := [0, 1, 2]
def res77 : List RV := [(.t 2)]
def c77 : CC :=
 (.seq (.reg [⟨(some 1), (.box (.t 0)), none, 2⟩, ⟨(some 2), (.mov (.c .nilf)), none, 2⟩]
 [])
 (.seq (.reg [⟨(some 3), (.mkf 85 [(.t 1)]), none, 2⟩, ⟨(some 2), (.mov (.t 3)), none, 2⟩]
 [])
 .ret))
theorem c77_ok : comp (tiOf Try.prog) mu77 [19, 21, 22, 25, 34, 38, 41, 42, 43, 46, 50, 56, 57, 58, 59, 62, 63, 65, 66, 71, 72, 73, 74, 75, 76] N77 (Try.f77.body.getD .skip) = c77 := by kernel_rfl
theorem b77 : Try.f77.body = some (Try.f77.body.getD .skip) := by kernel_rfl
theorem run77 {Γ : G} (hsp : SpOK Try.prog Γ.sp) {args : List AV} {h : List AO} {own : Bool} {kn : Nat} {K : AV → List AO → Prop} (hl : args.length ≤ N77) (hk0 : Γ.k0 = hlen h) (hkn : hlen h ≤ kn)
    (hrun : run Γ c77 (leafK Γ.sp res77 own kn K) [] (leafK Γ.sp res77 own kn K) (argS 0 args) h) (htn : Γ.tn ≤ N77 := by exact Nat.zero_le _)
    (hrf : ∀ F, rfind Γ.rf F = true → FdIter Try.prog F ∧ ∀ args w, (callFunc F args).run Try.prog w = .ok (.enter F args) w := by exact fun F h => absurd h (show ¬ (false = true) from Bool.false_ne_true)) : ACalls Try.prog 77 args h K :=
  acalls_of_run (tiOf_ok _) hsp follows Try.func77 b77 (rs := Try.f77.results.toList) (Array.toArray_toList).symm (by kernel_rfl) (by kernel_rfl) c77_ok (by kernel_rfl) hl hk0 htn hrf hkn hrun
theorem in77 : ∀ args w, (callFunc 77 args).run Try.prog w = .ok (.enter 77 args) w := callFunc_enter Try.func77 (by kernel_rfl) (by kernel_rfl)

/-- slices.Grow[[]byte,byte] -/
def N78 : Nat := 27
def mu78 : List Nat := []
def keep78 : List Nat := [0, 1, 4, 6, 16]
def res78 : List RV := [(.t 4)]
def c78 : CC :=
 (.seq (.reg [⟨(some 4), (.mov (.c (.sl true 0 0 (.agg []) true))), none, 2⟩]
 [])
 (.seq (.seq (.reg [⟨(some 5), (.mov (.t 1)), none, 2⟩, ⟨(some 6), (.bin .lss (.t 5) (.c (.int 0))), none, 2⟩]
 [])
 (.cond (.t 6)
 (.reg [⟨(some 7), (.mki 9 (.c (.str [99, 97, 110, 110, 111, 116, 32, 98, 101, 32, 110, 101, 103, 97, 116, 105, 118, 101]))), none, 2⟩, ⟨none, .bad, none, 2⟩]
 [])
 .skip))
 (.seq (.seq (.reg [⟨(some 8), (.mov (.t 1)), none, 2⟩, ⟨(some 9), (.mov (.t 0)), none, 2⟩, ⟨(some 10), (.cap (.t 9)), none, 2⟩, ⟨(some 11), (.mov (.t 0)), none, 2⟩, ⟨(some 12), (.len false (.t 11)), none, 2⟩, ⟨(some 13), (.bin .sub (.t 10) (.t 12)), none, 2⟩, ⟨(some 14), (.bin .sub (.t 8) (.t 13)), none, 2⟩, ⟨(some 1), (.mov (.t 14)), none, 2⟩]
 [])
 (.seq (.reg [⟨(some 15), (.mov (.t 1)), none, 2⟩, ⟨(some 16), (.bin .gtr (.t 15) (.c (.int 0))), none, 2⟩]
 [])
 (.cond (.t 16)
 (.reg [⟨(some 17), (.mov (.t 0)), none, 2⟩, ⟨(some 18), (.mov (.t 0)), none, 2⟩, ⟨(some 19), (.cap (.t 18)), none, 2⟩, ⟨(some 20), (.slcS 1 (.t 17) none (some (.t 19)) none), none, 2⟩, ⟨(some 21), (.mov (.t 1)), none, 2⟩, ⟨(some 22), .bad, none, 2⟩, ⟨(some 23), (.mov (.t 0)), none, 2⟩, ⟨(some 24), (.len false (.t 23)), none, 2⟩, ⟨(some 25), (.slcS 1 (.t 22) none (some (.t 24)) none), none, 2⟩, ⟨(some 0), (.mov (.t 25)), none, 2⟩]
 [])
 .skip)))
 (.seq (.reg [⟨(some 26), (.mov (.t 0)), none, 2⟩, ⟨(some 4), (.mov (.t 26)), none, 2⟩]
 [])
 .ret))))
theorem c78_ok : comp (tiOf Try.prog) mu78 [19, 21, 22, 25, 34, 38, 41, 42, 43, 46, 50, 56, 57, 58, 59, 62, 63, 65, 66, 71, 72, 73, 74, 75, 76] N78 (Try.f78.body.getD .skip) = c78 := by kernel_rfl
theorem b78 : Try.f78.body = some (Try.f78.body.getD .skip) := by kernel_rfl
theorem run78 {Γ : G} (hsp : SpOK Try.prog Γ.sp) {args : List AV} {h : List AO} {own : Bool} {kn : Nat} {K : AV → List AO → Prop} (hl : args.length ≤ N78) (hk0 : Γ.k0 = hlen h) (hkn : hlen h ≤ kn)
    (hrun : run Γ c78 (leafK Γ.sp res78 own kn K) [] (leafK Γ.sp res78 own kn K) (argS 0 args) h) (htn : Γ.tn ≤ N78 := by exact Nat.zero_le _)
    (hrf : ∀ F, rfind Γ.rf F = true → FdIter Try.prog F ∧ ∀ args w, (callFunc F args).run Try.prog w = .ok (.enter F args) w := by exact fun F h => absurd h (show ¬ (false = true) from Bool.false_ne_true)) : ACalls Try.prog 78 args h K :=
  acalls_of_run (tiOf_ok _) hsp follows Try.func78 b78 (rs := Try.f78.results.toList) (Array.toArray_toList).symm (by kernel_rfl) (by kernel_rfl) c78_ok (by kernel_rfl) hl hk0 htn hrf hkn hrun
theorem in78 : ∀ args w, (callFunc 78 args).run Try.prog w = .ok (.enter 78 args) w := callFunc_enter Try.func78 (by kernel_rfl) (by kernel_rfl)

/-- slices.Index[[]int,int] -/
def N79 : Nat := 19
def mu79 : List Nat := []
def keep79 : List Nat := [0, 1, 4, 5, 7, 8, 9, 16]
def res79 : List RV := [(.t 4)]
def c79 : CC :=
 (.seq (.reg [⟨(some 4), (.mov (.c (.int 0))), none, 2⟩]
 [])
 (.seq (.seq (.reg [⟨(some 6), (.mov (.t 0)), none, 2⟩, ⟨(some 7), (.len false (.t 6)), none, 2⟩, ⟨(some 8), (.mov (.c (.int 0))), none, 2⟩]
 [])
 (.block 0 (.loop (.seq (.reg [⟨(some 9), (.bin .lss (.t 8) (.t 7)), none, 2⟩]
 [])
 (.seq (.cond (.t 9)
 .skip
 (.exit 0))
 (.seq (.block 1 (.seq (.reg [⟨(some 10), (.mov (.t 8)), none, 2⟩, ⟨(some 5), (.mov (.t 10)), none, 2⟩]
 [])
 (.seq (.reg [⟨(some 11), (.mov (.t 1)), none, 2⟩, ⟨(some 12), (.mov (.t 0)), none, 2⟩, ⟨(some 13), (.mov (.t 5)), none, 2⟩, ⟨(some 14), (.iadS 1 (.t 12) (.t 13)), none, 2⟩, ⟨(some 15), (.load none (.t 14)), none, 2⟩, ⟨(some 16), (.eq false .sc (.t 11) (.t 15)), none, 2⟩]
 [])
 (.cond (.t 16)
 (.seq (.reg [⟨(some 17), (.mov (.t 5)), none, 2⟩, ⟨(some 4), (.mov (.t 17)), none, 2⟩]
 [])
 .ret)
 .skip))))
 (.reg [⟨(some 18), (.bin .add (.t 8) (.c (.int 1))), none, 2⟩, ⟨(some 8), (.mov (.t 18)), none, 2⟩]
 [])))))))
 (.seq (.reg [⟨(some 4), (.mov (.c (.int (-1)))), none, 2⟩]
 [])
 .ret)))
theorem c79_ok : comp (tiOf Try.prog) mu79 [19, 21, 22, 25, 34, 38, 41, 42, 43, 46, 50, 56, 57, 58, 59, 62, 63, 65, 66, 71, 72, 73, 74, 75, 76] N79 (Try.f79.body.getD .skip) = c79 := by kernel_rfl
theorem b79 : Try.f79.body = some (Try.f79.body.getD .skip) := by kernel_rfl
theorem run79 {Γ : G} (hsp : SpOK Try.prog Γ.sp) {args : List AV} {h : List AO} {own : Bool} {kn : Nat} {K : AV → List AO → Prop} (hl : args.length ≤ N79) (hk0 : Γ.k0 = hlen h) (hkn : hlen h ≤ kn)
    (hrun : run Γ c79 (leafK Γ.sp res79 own kn K) [] (leafK Γ.sp res79 own kn K) (argS 0 args) h) (htn : Γ.tn ≤ N79 := by exact Nat.zero_le _)
    (hrf : ∀ F, rfind Γ.rf F = true → FdIter Try.prog F ∧ ∀ args w, (callFunc F args).run Try.prog w = .ok (.enter F args) w := by exact fun F h => absurd h (show ¬ (false = true) from Bool.false_ne_true)) : ACalls Try.prog 79 args h K :=
  acalls_of_run (tiOf_ok _) hsp follows Try.func79 b79 (rs := Try.f79.results.toList) (Array.toArray_toList).symm (by kernel_rfl) (by kernel_rfl) c79_ok (by kernel_rfl) hl hk0 htn hrf hkn hrun
theorem in79 : ∀ args w, (callFunc 79 args).run Try.prog w = .ok (.enter 79 args) w := callFunc_enter Try.func79 (by kernel_rfl) (by kernel_rfl)

/-- sentinel/sentinelref5.of -/
def N80 : Nat := 20
def mu80 : List Nat := []
def keep80 : List Nat := [0, 2, 3, 4, 8]
def res80 : List RV := [(.t 2)]
def c80 : CC :=
 (.seq (.reg [⟨(some 2), (.mov (.c (.int 0))), none, 2⟩]
 [])
 (.seq (.reg [⟨(some 3), (.mov (.c (.int 0))), none, 2⟩]
 [])
 (.seq (.seq (.reg [⟨(some 4), (.mov (.c (.int 0))), none, 2⟩]
 [])
 (.block 0 (.loop (.seq (.seq (.reg [⟨(some 5), (.mov (.t 4)), none, 2⟩, ⟨(some 6), (.mov (.t 0)), none, 2⟩, ⟨(some 7), (.len false (.t 6)), none, 2⟩, ⟨(some 8), (.bin .lss (.t 5) (.t 7)), none, 2⟩]
 [])
 (.cond (.t 8)
 .skip
 (.exit 0)))
 (.seq (.block 1 (.reg [⟨(some 11), (.mov (.t 3)), none, 2⟩, ⟨(some 12), (.mov (.t 0)), none, 2⟩, ⟨(some 13), (.mov (.t 4)), none, 2⟩, ⟨(some 14), (.iadS 1 (.t 12) (.t 13)), none, 2⟩, ⟨(some 15), (.load none (.t 14)), none, 2⟩, ⟨(some 16), (.conv .iu64 (.t 15)), none, 2⟩, ⟨(some 17), (.bin .shl (.c (.int 1)) (.t 16)), none, 2⟩, ⟨(some 18), (.bin .or (.t 11) (.t 17)), none, 2⟩, ⟨(some 3), (.mov (.t 18)), none, 2⟩]
 []))
 (.reg [⟨(some 9), (.mov (.t 4)), none, 2⟩, ⟨(some 10), (.bin .add (.t 9) (.c (.int 1))), none, 2⟩, ⟨(some 4), (.mov (.t 10)), none, 2⟩]
 []))))))
 (.seq (.reg [⟨(some 19), (.mov (.t 3)), none, 2⟩, ⟨(some 2), (.mov (.t 19)), none, 2⟩]
 [])
 .ret))))
theorem c80_ok : comp (tiOf Try.prog) mu80 [19, 21, 22, 25, 34, 38, 41, 42, 43, 46, 50, 56, 57, 58, 59, 62, 63, 65, 66, 71, 72, 73, 74, 75, 76] N80 (Try.f80.body.getD .skip) = c80 := by kernel_rfl
theorem b80 : Try.f80.body = some (Try.f80.body.getD .skip) := by kernel_rfl
theorem run80 {Γ : G} (hsp : SpOK Try.prog Γ.sp) {args : List AV} {h : List AO} {own : Bool} {kn : Nat} {K : AV → List AO → Prop} (hl : args.length ≤ N80) (hk0 : Γ.k0 = hlen h) (hkn : hlen h ≤ kn)
    (hrun : run Γ c80 (leafK Γ.sp res80 own kn K) [] (leafK Γ.sp res80 own kn K) (argS 0 args) h) (htn : Γ.tn ≤ N80 := by exact Nat.zero_le _)
    (hrf : ∀ F, rfind Γ.rf F = true → FdIter Try.prog F ∧ ∀ args w, (callFunc F args).run Try.prog w = .ok (.enter F args) w := by exact fun F h => absurd h (show ¬ (false = true) from Bool.false_ne_true)) : ACalls Try.prog 80 args h K :=
  acalls_of_run (tiOf_ok _) hsp follows Try.func80 b80 (rs := Try.f80.results.toList) (Array.toArray_toList).symm (by kernel_rfl) (by kernel_rfl) c80_ok (by kernel_rfl) hl hk0 htn hrf hkn hrun
theorem in80 : ∀ args w, (callFunc 80 args).run Try.prog w = .ok (.enter 80 args) w := callFunc_enter Try.func80 (by kernel_rfl) (by kernel_rfl)

/-- math/bits.Len32 -/
def N81 : Nat := 19
def mu81 : List Nat := []
def keep81 : List Nat := [0, 2, 4, 8]
def res81 : List RV := [(.t 2)]
def c81 : CC :=
 (.seq (.reg [⟨(some 2), (.mov (.c (.int 0))), none, 2⟩]
 [])
 (.seq (.seq (.reg [⟨(some 3), (.mov (.t 0)), none, 2⟩, ⟨(some 4), (.bin .geq (.t 3) (.c (.u32 65536))), none, 2⟩]
 [])
 (.cond (.t 4)
 (.seq (.reg [⟨(some 5), (.mov (.t 0)), none, 2⟩, ⟨(some 6), (.bin .shr (.t 5) (.c (.u64 16))), none, 2⟩, ⟨(some 0), (.mov (.t 6)), none, 2⟩]
 [])
 (.reg [⟨(some 2), (.mov (.c (.int 16))), none, 2⟩]
 []))
 .skip))
 (.seq (.seq (.reg [⟨(some 7), (.mov (.t 0)), none, 2⟩, ⟨(some 8), (.bin .geq (.t 7) (.c (.u32 256))), none, 2⟩]
 [])
 (.cond (.t 8)
 (.seq (.reg [⟨(some 9), (.mov (.t 0)), none, 2⟩, ⟨(some 10), (.bin .shr (.t 9) (.c (.u64 8))), none, 2⟩, ⟨(some 0), (.mov (.t 10)), none, 2⟩]
 [])
 (.reg [⟨(some 11), (.mov (.t 2)), none, 2⟩, ⟨(some 12), (.bin .add (.t 11) (.c (.int 8))), none, 2⟩, ⟨(some 2), (.mov (.t 12)), none, 2⟩]
 []))
 .skip))
 (.seq (.reg [⟨(some 13), (.mov (.t 2)), none, 2⟩, ⟨(some 14), (.mov (.t 0)), none, 2⟩, ⟨(some 15), (.conv .u32u8 (.t 14)), none, 2⟩, ⟨(some 16), (.idx (.c (.str [0, 1, 2, 2, 3, 3, 3, 3, 4, 4, 4, 4, 4, 4, 4, 4, 5, 5, 5, 5, 5, 5, 5, 5, 5, 5, 5, 5, 5, 5, 5, 5, 6, 6, 6, 6, 6, 6, 6, 6, 6, 6, 6, 6, 6, 6, 6, 6, 6, 6, 6, 6, 6, 6, 6, 6, 6, 6, 6, 6, 6, 6, 6, 6, 7, 7, 7, 7, 7, 7, 7, 7, 7, 7, 7, 7, 7, 7, 7, 7, 7, 7, 7, 7, 7, 7, 7, 7, 7, 7, 7, 7, 7, 7, 7, 7, 7, 7, 7, 7, 7, 7, 7, 7, 7, 7, 7, 7, 7, 7, 7, 7, 7, 7, 7, 7, 7, 7, 7, 7, 7, 7, 7, 7, 7, 7, 7, 7, 8, 8, 8, 8, 8, 8, 8, 8, 8, 8, 8, 8, 8, 8, 8, 8, 8, 8, 8, 8, 8, 8, 8, 8, 8, 8, 8, 8, 8, 8, 8, 8, 8, 8, 8, 8, 8, 8, 8, 8, 8, 8, 8, 8, 8, 8, 8, 8, 8, 8, 8, 8, 8, 8, 8, 8, 8, 8, 8, 8, 8, 8, 8, 8, 8, 8, 8, 8, 8, 8, 8, 8, 8, 8, 8, 8, 8, 8, 8, 8, 8, 8, 8, 8, 8, 8, 8, 8, 8, 8, 8, 8, 8, 8, 8, 8, 8, 8, 8, 8, 8, 8, 8, 8, 8, 8, 8, 8, 8, 8, 8, 8, 8, 8, 8, 8, 8, 8, 8, 8, 8, 8, 8, 8, 8, 8, 8, 8])) (.t 15)), none, 2⟩, ⟨(some 17), (.conv .u8i (.t 16)), none, 2⟩, ⟨(some 18), (.bin .add (.t 13) (.t 17)), none, 2⟩, ⟨(some 2), (.mov (.t 18)), none, 2⟩]
 [])
 .ret))))
theorem c81_ok : comp (tiOf Try.prog) mu81 [19, 21, 22, 25, 34, 38, 41, 42, 43, 46, 50, 56, 57, 58, 59, 62, 63, 65, 66, 71, 72, 73, 74, 75, 76] N81 (Try.f81.body.getD .skip) = c81 := by kernel_rfl
theorem b81 : Try.f81.body = some (Try.f81.body.getD .skip) := by kernel_rfl
theorem run81 {Γ : G} (hsp : SpOK Try.prog Γ.sp) {args : List AV} {h : List AO} {own : Bool} {kn : Nat} {K : AV → List AO → Prop} (hl : args.length ≤ N81) (hk0 : Γ.k0 = hlen h) (hkn : hlen h ≤ kn)
    (hrun : run Γ c81 (leafK Γ.sp res81 own kn K) [] (leafK Γ.sp res81 own kn K) (argS 0 args) h) (htn : Γ.tn ≤ N81 := by exact Nat.zero_le _)
    (hrf : ∀ F, rfind Γ.rf F = true → FdIter Try.prog F ∧ ∀ args w, (callFunc F args).run Try.prog w = .ok (.enter F args) w := by exact fun F h => absurd h (show ¬ (false = true) from Bool.false_ne_true)) : ACalls Try.prog 81 args h K :=
  acalls_of_run (tiOf_ok _) hsp follows Try.func81 b81 (rs := Try.f81.results.toList) (Array.toArray_toList).symm (by kernel_rfl) (by kernel_rfl) c81_ok (by kernel_rfl) hl hk0 htn hrf hkn hrun
theorem in81 : ∀ args w, (callFunc 81 args).run Try.prog w = .ok (.enter 81 args) w := callFunc_enter Try.func81 (by kernel_rfl) (by kernel_rfl)

/-- sentinel/limb.Bytes -/
def N82 : Nat := 34
def mu82 : List Nat := []
def keep82 : List Nat := [0, 1, 2, 3, 4, 7]
def res82 : List RV := [(.t 2)]
def c82 : CC :=
 (.seq (.reg [⟨(some 1), (.box (.t 0)), none, 2⟩, ⟨(some 2), (.mov (.c (.sl true 0 0 (.agg []) true))), none, 2⟩]
 [])
 (.seq (.reg [⟨(some 5), (.mksl .u8 1 1 [(.u8 0)] (.c (.int 0)) (.c (.int 32))), none, 2⟩, ⟨(some 3), (.mov (.t 5)), none, 2⟩]
 [])
 (.seq (.seq (.reg [⟨(some 4), (.mov (.c (.int 7))), none, 2⟩]
 [])
 (.block 0 (.loop (.seq (.seq (.reg [⟨(some 6), (.mov (.t 4)), none, 2⟩, ⟨(some 7), (.bin .geq (.t 6) (.c (.int 0))), none, 2⟩]
 [])
 (.cond (.t 7)
 .skip
 (.exit 0)))
 (.seq (.block 1 (.reg [⟨(some 10), (.mov (.t 3)), none, 0⟩, ⟨(some 11), (.mov (.t 4)), none, 0⟩, ⟨(some 12), (.iadA 8 1 (.t 1) (.t 11)), none, 0⟩, ⟨(some 13), (.load none (.t 12)), none, 1⟩, ⟨(some 14), (.bin .shr (.t 13) (.c (.u64 24))), none, 0⟩, ⟨(some 15), (.conv .u32u8 (.t 14)), none, 0⟩, ⟨(some 16), (.mov (.t 4)), none, 0⟩, ⟨(some 17), (.iadA 8 1 (.t 1) (.t 16)), none, 0⟩, ⟨(some 18), (.load none (.t 17)), none, 1⟩, ⟨(some 19), (.bin .shr (.t 18) (.c (.u64 16))), none, 0⟩, ⟨(some 20), (.conv .u32u8 (.t 19)), none, 0⟩, ⟨(some 21), (.mov (.t 4)), none, 0⟩, ⟨(some 22), (.iadA 8 1 (.t 1) (.t 21)), none, 0⟩, ⟨(some 23), (.load none (.t 22)), none, 1⟩, ⟨(some 24), (.bin .shr (.t 23) (.c (.u64 8))), none, 0⟩, ⟨(some 25), (.conv .u32u8 (.t 24)), none, 0⟩, ⟨(some 26), (.mov (.t 4)), none, 0⟩, ⟨(some 27), (.iadA 8 1 (.t 1) (.t 26)), none, 0⟩, ⟨(some 28), (.load none (.t 27)), none, 1⟩, ⟨(some 29), (.conv .u32u8 (.t 28)), none, 0⟩, ⟨(some 30), (.bsl false .u8 1 4 [(.u8 0)] [(0, (1, (.t 15))), (1, (1, (.t 20))), (2, (1, (.t 25))), (3, (1, (.t 29)))]), none, 0⟩, ⟨(some 31), (.app true 1 1 (.t 10) (.t 30)), none, 2⟩, ⟨(some 3), (.mov (.t 31)), none, 0⟩]
 []))
 (.reg [⟨(some 8), (.mov (.t 4)), none, 2⟩, ⟨(some 9), (.bin .sub (.t 8) (.c (.int 1))), none, 2⟩, ⟨(some 4), (.mov (.t 9)), none, 2⟩]
 []))))))
 (.seq (.reg [⟨(some 32), (.mov (.t 3)), none, 2⟩, ⟨(some 33), (.slcS 1 (.t 32) none (some (.c (.int 32))) (some (.c (.int 32)))), none, 2⟩, ⟨(some 2), (.mov (.t 33)), none, 2⟩]
 [])
 .ret))))
theorem c82_ok : comp (tiOf Try.prog) mu82 [19, 21, 22, 25, 34, 38, 41, 42, 43, 46, 50, 56, 57, 58, 59, 62, 63, 65, 66, 71, 72, 73, 74, 75, 76] N82 (Try.f82.body.getD .skip) = c82 := by kernel_rfl
theorem b82 : Try.f82.body = some (Try.f82.body.getD .skip) := by kernel_rfl
theorem run82 {Γ : G} (hsp : SpOK Try.prog Γ.sp) {args : List AV} {h : List AO} {own : Bool} {kn : Nat} {K : AV → List AO → Prop} (hl : args.length ≤ N82) (hk0 : Γ.k0 = hlen h) (hkn : hlen h ≤ kn)
    (hrun : run Γ c82 (leafK Γ.sp res82 own kn K) [] (leafK Γ.sp res82 own kn K) (argS 0 args) h) (htn : Γ.tn ≤ N82 := by exact Nat.zero_le _)
    (hrf : ∀ F, rfind Γ.rf F = true → FdIter Try.prog F ∧ ∀ args w, (callFunc F args).run Try.prog w = .ok (.enter F args) w := by exact fun F h => absurd h (show ¬ (false = true) from Bool.false_ne_true)) : ACalls Try.prog 82 args h K :=
  acalls_of_run (tiOf_ok _) hsp follows Try.func82 b82 (rs := Try.f82.results.toList) (Array.toArray_toList).symm (by kernel_rfl) (by kernel_rfl) c82_ok (by kernel_rfl) hl hk0 htn hrf hkn hrun
theorem in82 : ∀ args w, (callFunc 82 args).run Try.prog w = .ok (.enter 82 args) w := callFunc_enter Try.func82 (by kernel_rfl) (by kernel_rfl)

/-- sentinel/sentinelref1.Bytes -/
def N83 : Nat := 32
def mu83 : List Nat := []
def keep83 : List Nat := [0, 1, 2, 3, 4, 6]
def res83 : List RV := [(.t 2)]
def c83 : CC :=
 (.seq (.reg [⟨(some 1), (.box (.t 0)), none, 2⟩, ⟨(some 2), (.mov (.c (.sl true 0 0 (.agg []) true))), none, 2⟩]
 [])
 (.seq (.reg [⟨(some 3), (.mov (.c (.sl true 0 0 (.agg []) true))), none, 2⟩]
 [])
 (.seq (.seq (.reg [⟨(some 4), (.mov (.c (.int 7))), none, 2⟩]
 [])
 (.block 0 (.loop (.seq (.seq (.reg [⟨(some 5), (.mov (.t 4)), none, 2⟩, ⟨(some 6), (.bin .geq (.t 5) (.c (.int 0))), none, 2⟩]
 [])
 (.cond (.t 6)
 .skip
 (.exit 0)))
 (.seq (.block 1 (.reg [⟨(some 9), (.mov (.t 3)), none, 0⟩, ⟨(some 10), (.mov (.t 4)), none, 0⟩, ⟨(some 11), (.iadA 8 1 (.t 1) (.t 10)), none, 0⟩, ⟨(some 12), (.load none (.t 11)), none, 1⟩, ⟨(some 13), (.bin .shr (.t 12) (.c (.u64 24))), none, 0⟩, ⟨(some 14), (.conv .u32u8 (.t 13)), none, 0⟩, ⟨(some 15), (.mov (.t 4)), none, 0⟩, ⟨(some 16), (.iadA 8 1 (.t 1) (.t 15)), none, 0⟩, ⟨(some 17), (.load none (.t 16)), none, 1⟩, ⟨(some 18), (.bin .shr (.t 17) (.c (.u64 16))), none, 0⟩, ⟨(some 19), (.conv .u32u8 (.t 18)), none, 0⟩, ⟨(some 20), (.mov (.t 4)), none, 0⟩, ⟨(some 21), (.iadA 8 1 (.t 1) (.t 20)), none, 0⟩, ⟨(some 22), (.load none (.t 21)), none, 1⟩, ⟨(some 23), (.bin .shr (.t 22) (.c (.u64 8))), none, 0⟩, ⟨(some 24), (.conv .u32u8 (.t 23)), none, 0⟩, ⟨(some 25), (.mov (.t 4)), none, 0⟩, ⟨(some 26), (.iadA 8 1 (.t 1) (.t 25)), none, 0⟩, ⟨(some 27), (.load none (.t 26)), none, 1⟩, ⟨(some 28), (.conv .u32u8 (.t 27)), none, 0⟩, ⟨(some 29), (.bsl false .u8 1 4 [(.u8 0)] [(0, (1, (.t 14))), (1, (1, (.t 19))), (2, (1, (.t 24))), (3, (1, (.t 28)))]), none, 0⟩, ⟨(some 30), (.app true 1 1 (.t 9) (.t 29)), none, 2⟩, ⟨(some 3), (.mov (.t 30)), none, 0⟩]
 []))
 (.reg [⟨(some 7), (.mov (.t 4)), none, 2⟩, ⟨(some 8), (.bin .sub (.t 7) (.c (.int 1))), none, 2⟩, ⟨(some 4), (.mov (.t 8)), none, 2⟩]
 []))))))
 (.seq (.reg [⟨(some 31), (.mov (.t 3)), none, 2⟩, ⟨(some 2), (.mov (.t 31)), none, 2⟩]
 [])
 .ret))))
theorem c83_ok : comp (tiOf Try.prog) mu83 [19, 21, 22, 25, 34, 38, 41, 42, 43, 46, 50, 56, 57, 58, 59, 62, 63, 65, 66, 71, 72, 73, 74, 75, 76] N83 (Try.f83.body.getD .skip) = c83 := by kernel_rfl
theorem b83 : Try.f83.body = some (Try.f83.body.getD .skip) := by kernel_rfl
theorem run83 {Γ : G} (hsp : SpOK Try.prog Γ.sp) {args : List AV} {h : List AO} {own : Bool} {kn : Nat} {K : AV → List AO → Prop} (hl : args.length ≤ N83) (hk0 : Γ.k0 = hlen h) (hkn : hlen h ≤ kn)
    (hrun : run Γ c83 (leafK Γ.sp res83 own kn K) [] (leafK Γ.sp res83 own kn K) (argS 0 args) h) (htn : Γ.tn ≤ N83 := by exact Nat.zero_le _)
    (hrf : ∀ F, rfind Γ.rf F = true → FdIter Try.prog F ∧ ∀ args w, (callFunc F args).run Try.prog w = .ok (.enter F args) w := by exact fun F h => absurd h (show ¬ (false = true) from Bool.false_ne_true)) : ACalls Try.prog 83 args h K :=
  acalls_of_run (tiOf_ok _) hsp follows Try.func83 b83 (rs := Try.f83.results.toList) (Array.toArray_toList).symm (by kernel_rfl) (by kernel_rfl) c83_ok (by kernel_rfl) hl hk0 htn hrf hkn hrun
theorem in83 : ∀ args w, (callFunc 83 args).run Try.prog w = .ok (.enter 83 args) w := callFunc_enter Try.func83 (by kernel_rfl) (by kernel_rfl)

/-- sentinel/limb.Read -/
def N84 : Nat := 38
def mu84 : List Nat := []
def keep84 : List Nat := [0, 2, 3, 4, 5, 6, 7, 10, 12, 13, 14, 15]
def res84 : List RV := [(.c 2 (some 8)), (.t 3)]
def c84 : CC :=
 (.seq (.reg [⟨(some 2), (.alloc (.agg [(.u32 0), (.u32 0), (.u32 0), (.u32 0), (.u32 0), (.u32 0), (.u32 0), (.u32 0)])), none, 2⟩, ⟨(some 3), (.mov (.c (.bool false))), none, 2⟩]
 [])
 (.seq (.reg [⟨(some 4), (.alloc (.agg [(.u32 0), (.u32 0), (.u32 0), (.u32 0), (.u32 0), (.u32 0), (.u32 0), (.u32 0)])), none, 2⟩]
 [])
 (.seq (.seq (.reg [⟨(some 8), (.mov (.t 0)), none, 2⟩, ⟨(some 9), (.len false (.t 8)), none, 2⟩, ⟨(some 10), (.bin .gtr (.t 9) (.c (.int 32))), none, 2⟩]
 [])
 (.cond (.t 10)
 (.seq (.reg [⟨(some 11), (.load (some 8) (.t 4)), none, 2⟩, ⟨none, (.store (some 8) (.t 2) (.t 11)), none, 2⟩, ⟨(some 3), (.mov (.c (.bool false))), none, 2⟩]
 [])
 .ret)
 .skip))
 (.seq (.seq (.reg [⟨(some 12), (.mov (.t 0)), none, 2⟩, ⟨(some 13), (.len false (.t 12)), none, 2⟩, ⟨(some 14), (.mov (.c (.int 0))), none, 2⟩]
 [])
 (.block 0 (.loop (.seq (.reg [⟨(some 15), (.bin .lss (.t 14) (.t 13)), none, 2⟩]
 [])
 (.seq (.cond (.t 15)
 .skip
 (.exit 0))
 (.seq (.block 1 (.seq (.reg [⟨(some 16), (.mov (.t 14)), none, 2⟩, ⟨(some 17), (.iadS 1 (.t 12) (.t 14)), none, 2⟩, ⟨(some 18), (.load none (.t 17)), none, 2⟩, ⟨(some 5), (.mov (.t 16)), none, 2⟩, ⟨(some 6), (.mov (.t 18)), none, 2⟩]
 [])
 (.seq (.reg [⟨(some 19), (.mov (.t 0)), none, 2⟩, ⟨(some 20), (.len false (.t 19)), none, 2⟩, ⟨(some 21), (.bin .sub (.t 20) (.c (.int 1))), none, 2⟩, ⟨(some 22), (.mov (.t 5)), none, 2⟩, ⟨(some 23), (.bin .sub (.t 21) (.t 22)), none, 2⟩, ⟨(some 7), (.mov (.t 23)), none, 2⟩]
 [])
 (.reg [⟨(some 24), (.mov (.t 7)), none, 0⟩, ⟨(some 25), (.bin .quo (.t 24) (.c (.int 4))), none, 0⟩, ⟨(some 26), (.iadA 8 1 (.t 4) (.t 25)), none, 0⟩, ⟨(some 27), (.load none (.t 26)), none, 1⟩, ⟨(some 28), (.mov (.t 6)), none, 0⟩, ⟨(some 29), (.conv .u8u32 (.t 28)), none, 0⟩, ⟨(some 30), (.mov (.t 7)), none, 0⟩, ⟨(some 31), (.bin .rem (.t 30) (.c (.int 4))), none, 0⟩, ⟨(some 32), (.bin .mul (.c (.int 8)) (.t 31)), none, 0⟩, ⟨(some 33), (.bin .shl (.t 29) (.t 32)), none, 0⟩, ⟨(some 34), (.bin .or (.t 27) (.t 33)), none, 0⟩, ⟨(some 35), (.iadA 8 1 (.t 4) (.t 25)), none, 0⟩, ⟨none, (.store none (.t 35) (.t 34)), none, 2⟩]
 []))))
 (.reg [⟨(some 36), (.bin .add (.t 14) (.c (.int 1))), none, 2⟩, ⟨(some 14), (.mov (.t 36)), none, 2⟩]
 [])))))))
 (.seq (.reg [⟨(some 37), (.load (some 8) (.t 4)), none, 2⟩, ⟨none, (.store (some 8) (.t 2) (.t 37)), none, 2⟩, ⟨(some 3), (.mov (.c (.bool true))), none, 2⟩]
 [])
 .ret)))))
theorem c84_ok : comp (tiOf Try.prog) mu84 [19, 21, 22, 25, 34, 38, 41, 42, 43, 46, 50, 56, 57, 58, 59, 62, 63, 65, 66, 71, 72, 73, 74, 75, 76] N84 (Try.f84.body.getD .skip) = c84 := by kernel_rfl
theorem b84 : Try.f84.body = some (Try.f84.body.getD .skip) := by kernel_rfl
theorem run84 {Γ : G} (hsp : SpOK Try.prog Γ.sp) {args : List AV} {h : List AO} {own : Bool} {kn : Nat} {K : AV → List AO → Prop} (hl : args.length ≤ N84) (hk0 : Γ.k0 = hlen h) (hkn : hlen h ≤ kn)
    (hrun : run Γ c84 (leafK Γ.sp res84 own kn K) [] (leafK Γ.sp res84 own kn K) (argS 0 args) h) (htn : Γ.tn ≤ N84 := by exact Nat.zero_le _)
    (hrf : ∀ F, rfind Γ.rf F = true → FdIter Try.prog F ∧ ∀ args w, (callFunc F args).run Try.prog w = .ok (.enter F args) w := by exact fun F h => absurd h (show ¬ (false = true) from Bool.false_ne_true)) : ACalls Try.prog 84 args h K :=
  acalls_of_run (tiOf_ok _) hsp follows Try.func84 b84 (rs := Try.f84.results.toList) (Array.toArray_toList).symm (by kernel_rfl) (by kernel_rfl) c84_ok (by kernel_rfl) hl hk0 htn hrf hkn hrun
theorem in84 : ∀ args w, (callFunc 84 args).run Try.prog w = .ok (.enter 84 args) w := callFunc_enter Try.func84 (by kernel_rfl) (by kernel_rfl)

/-- slices.Values[[]sentinel/wire.field,sentinel/wire.field]$1 -/
def N85 : Nat := 16
def mu85 : List Nat := []
def keep85 : List Nat := [0, 1, 4, 5, 6, 7, 8, 14]
def res85 : List RV := []
def c85 : CC :=
 (.seq (.reg [⟨(some 5), (.load none (.t 1)), none, 2⟩, ⟨(some 6), (.len false (.t 5)), none, 2⟩, ⟨(some 7), (.mov (.c (.int 0))), none, 2⟩]
 [])
 (.block 0 (.loop (.seq (.reg [⟨(some 8), (.bin .lss (.t 7) (.t 6)), none, 2⟩]
 [])
 (.seq (.cond (.t 8)
 .skip
 (.exit 0))
 (.seq (.block 1 (.seq (.reg [⟨(some 9), (.iadS 3 (.t 5) (.t 7)), none, 2⟩, ⟨(some 10), (.load (some 3) (.t 9)), none, 2⟩, ⟨(some 4), (.alloc (.agg [(.int 0), (.sl true 0 0 (.agg []) true), (.bool false)])), none, 2⟩, ⟨none, (.store (some 3) (.t 4) (.t 10)), none, 2⟩]
 [])
 (.seq (.reg [⟨(some 11), (.mov (.t 0)), none, 2⟩, ⟨(some 12), (.load (some 3) (.t 4)), none, 2⟩, ⟨(some 13), (.call (.t 11) [(.t 12)]), none, 2⟩, ⟨(some 14), (.un .not (.t 13)), none, 2⟩]
 [])
 (.cond (.t 14)
 .ret
 .skip))))
 (.reg [⟨(some 15), (.bin .add (.t 7) (.c (.int 1))), none, 2⟩, ⟨(some 7), (.mov (.t 15)), none, 2⟩]
 [])))))))
theorem c85_ok : comp (tiOf Try.prog) mu85 [19, 21, 22, 25, 34, 38, 41, 42, 43, 46, 50, 56, 57, 58, 59, 62, 63, 65, 66, 71, 72, 73, 74, 75, 76] N85 (Try.f85.body.getD .skip) = c85 := by kernel_rfl
theorem b85 : Try.f85.body = some (Try.f85.body.getD .skip) := by kernel_rfl
theorem run85 {Γ : G} (hsp : SpOK Try.prog Γ.sp) {args : List AV} {h : List AO} {own : Bool} {kn : Nat} {K : AV → List AO → Prop} (hl : args.length ≤ N85) (hk0 : Γ.k0 = hlen h) (hkn : hlen h ≤ kn)
    (hrun : run Γ c85 (leafK Γ.sp res85 own kn K) [] (leafK Γ.sp res85 own kn K) (argS 0 args) h) (htn : Γ.tn ≤ N85 := by exact Nat.zero_le _)
    (hrf : ∀ F, rfind Γ.rf F = true → FdIter Try.prog F ∧ ∀ args w, (callFunc F args).run Try.prog w = .ok (.enter F args) w := by exact fun F h => absurd h (show ¬ (false = true) from Bool.false_ne_true)) : ACalls Try.prog 85 args h K :=
  acalls_of_run (tiOf_ok _) hsp follows Try.func85 b85 (rs := Try.f85.results.toList) (Array.toArray_toList).symm (by kernel_rfl) (by kernel_rfl) c85_ok (by kernel_rfl) hl hk0 htn hrf hkn hrun
theorem in85 : ∀ args w, (callFunc 85 args).run Try.prog w = .ok (.enter 85 args) w := callFunc_enter Try.func85 (by kernel_rfl) (by kernel_rfl)


end Go.Abs
