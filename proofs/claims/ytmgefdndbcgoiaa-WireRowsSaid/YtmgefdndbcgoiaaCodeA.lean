/-
  Own work. Conditions: none. THE CODE OF THE FUNCTIONS OF THIS SEAT IN THE EXECUTOR's SHORT FORM (printed by our own program, gen.py), each with the proof that it is what 'comp' gives.
-/
import Derived.Test.YtmgefdndbcgoiaaAbsB
import Derived.Test.YtmgefdndbcgoiaaProg
import Derived.KernelRfl
set_option linter.unusedVariables false
set_option linter.unusedSimpArgs false
set_option linter.unnecessarySimpa false
namespace Go.Abs
open Go.Proofs
set_option maxRecDepth 100000
theorem follows : Try.prog.follows .mixedOrders = true := by kernel_rfl
/-- gosem.cut.init -/
def N2 : Nat := 1
def mu2 : List Nat := []
def keep2 : List Nat := []
def res2 : List RV := []
def c2 : CC :=
 (.reg [⟨(some 0), (.call (.c (.fn 1 [])) []), none, 2⟩]
 [])
theorem c2_ok : comp (tiOf Try.prog) mu2 [19, 21, 22, 25, 34, 38, 41, 42, 43, 46, 50, 56, 57, 58, 59, 62, 63, 65, 66, 71, 72, 73, 74, 75, 76] N2 (Try.f2.body.getD .skip) = c2 := by kernel_rfl
theorem b2 : Try.f2.body = some (Try.f2.body.getD .skip) := by kernel_rfl
theorem run2 {Γ : G} (hsp : SpOK Try.prog Γ.sp) {args : List AV} {h : List AO} {own : Bool} {kn : Nat} {K : AV → List AO → Prop} (hl : args.length ≤ N2) (hk0 : Γ.k0 = hlen h) (hkn : hlen h ≤ kn)
    (hrun : run Γ c2 (leafK Γ.sp res2 own kn K) [] (leafK Γ.sp res2 own kn K) (argS 0 args) h) (htn : Γ.tn ≤ N2 := by exact Nat.zero_le _)
    (hrf : ∀ F, rfind Γ.rf F = true → FdIter Try.prog F ∧ ∀ args w, (callFunc F args).run Try.prog w = .ok (.enter F args) w := by exact fun F h => absurd h (show ¬ (false = true) from Bool.false_ne_true)) : ACalls Try.prog 2 args h K :=
  acalls_of_run (tiOf_ok _) hsp follows Try.func2 b2 (rs := Try.f2.results.toList) (Array.toArray_toList).symm (by kernel_rfl) (by kernel_rfl) c2_ok (by kernel_rfl) hl hk0 htn hrf hkn hrun
theorem in2 : ∀ args w, (callFunc 2 args).run Try.prog w = .ok (.enter 2 args) w := callFunc_enter Try.func2 (by kernel_rfl) (by kernel_rfl)

/-- sentinel/sentinellaw5.WireBack -/
def N3 : Nat := 72
def mu3 : List Nat := []
def keep3 : List Nat := [0, 1, 2, 3, 8, 9, 10, 11, 12, 13, 14, 15, 17, 25, 55, 57]
def res3 : List RV := [(.t 8)]
def c3 : CC :=
 (.seq (.reg [⟨(some 8), (.mov (.c (.bool false))), none, 2⟩]
 [])
 (.seq (.seq (.reg [⟨(some 16), (.call (.c (.fn 15 [])) []), none, 2⟩, ⟨(some 17), (.un .not (.t 16)), none, 2⟩]
 [])
 (.cond (.t 17)
 (.seq (.reg [⟨(some 8), (.mov (.c (.bool false))), none, 2⟩]
 [])
 .ret)
 .skip))
 (.seq (.seq (.reg [⟨(some 18), (.mov (.t 2)), none, 2⟩, ⟨(some 19), (.len true (.t 18)), none, 2⟩, ⟨(some 20), (.bin .gtr (.t 19) (.c (.int 40))), none, 2⟩, ⟨(some 21), (.mov (.t 20)), none, 2⟩, ⟨(some 22), (.mov (.t 3)), (some (21, false)), 2⟩, ⟨(some 23), (.len false (.t 22)), (some (21, false)), 2⟩, ⟨(some 24), (.bin .gtr (.t 23) (.c (.int 130))), (some (21, false)), 2⟩, ⟨(some 25), (.pick (.t 21) (.c (.bool true)) (.t 24)), none, 2⟩]
 [])
 (.cond (.t 25)
 (.seq (.reg [⟨(some 8), (.mov (.c (.bool true))), none, 2⟩]
 [])
 .ret)
 .skip))
 (.seq (.reg [⟨(some 26), (.mov (.t 0)), none, 2⟩, ⟨(some 27), (.mov (.t 1)), none, 2⟩, ⟨(some 28), (.mov (.t 2)), none, 2⟩, ⟨(some 29), (.mov (.t 3)), none, 2⟩, ⟨(some 30), (.call (.c (.fn 16 [])) [(.t 26), (.t 27), (.t 28), (.t 29)]), none, 2⟩, ⟨(some 9), (.alloc (.agg [(.int 0), (.int 0), (.int 0), (.int 0), (.str []), (.u32 0), (.u32 0), (.u32 0), (.u32 0), (.u32 0), (.u32 0), (.u32 0), (.u32 0), (.u32 0), (.u32 0), (.u32 0), (.u32 0), (.u32 0), (.u32 0), (.u32 0), (.u32 0), (.sl true 0 0 (.agg []) true), (.sl true 0 0 (.agg []) true), (.sl true 0 0 (.agg []) true), (.sl true 0 0 (.agg []) true), (.sl true 0 0 (.agg []) true)])), none, 2⟩, ⟨none, (.store (some 26) (.t 9) (.t 30)), none, 2⟩]
 [])
 (.seq (.reg [⟨(some 32), (.load (some 26) (.t 9)), none, 2⟩, ⟨(some 33), (.call (.c (.fn 17 [])) [(.t 32)]), none, 2⟩, ⟨(some 31), (.mov (.t 33)), none, 2⟩, ⟨(some 34), (.ext (.t 31) 0), none, 2⟩, ⟨(some 35), (.ext (.t 31) 1), none, 2⟩, ⟨(some 10), (.mov (.t 34)), none, 2⟩, ⟨(some 11), (.mov (.t 35)), none, 2⟩]
 [])
 (.seq (.reg [⟨(some 37), (.load (some 26) (.t 9)), none, 2⟩, ⟨(some 38), (.call (.c (.fn 18 [])) [(.t 37)]), none, 2⟩, ⟨(some 36), (.mov (.t 38)), none, 2⟩, ⟨(some 39), (.ext (.t 36) 0), none, 2⟩, ⟨(some 40), (.ext (.t 36) 1), none, 2⟩, ⟨(some 12), (.mov (.t 39)), none, 2⟩, ⟨(some 13), (.mov (.t 40)), none, 2⟩]
 [])
 (.seq (.seq (.reg [⟨(some 41), (.load (some 26) (.t 9)), none, 2⟩, ⟨(some 42), (.call (.c (.fn 19 [])) [(.t 41)]), none, 2⟩, ⟨(some 43), (.un .not (.t 42)), none, 2⟩, ⟨(some 44), (.mov (.t 43)), none, 2⟩, ⟨(some 45), (.mov (.t 11)), (some (44, false)), 2⟩, ⟨(some 46), (.mov (.t 13)), (some (44, false)), 2⟩, ⟨(some 47), (.eq true .bool (.t 45) (.t 46)), (some (44, false)), 2⟩, ⟨(some 48), (.pick (.t 44) (.c (.bool true)) (.t 47)), none, 2⟩, ⟨(some 49), (.mov (.t 48)), none, 2⟩, ⟨(some 50), (.mov (.t 10)), (some (49, false)), 2⟩, ⟨(some 51), (.conv .bstr (.t 50)), (some (49, false)), 2⟩, ⟨(some 52), (.mov (.t 12)), (some (49, false)), 2⟩, ⟨(some 53), (.conv .bstr (.t 52)), (some (49, false)), 2⟩, ⟨(some 54), (.eq true .sc (.t 51) (.t 53)), (some (49, false)), 2⟩, ⟨(some 55), (.pick (.t 49) (.c (.bool true)) (.t 54)), none, 2⟩]
 [])
 (.cond (.t 55)
 (.seq (.reg [⟨(some 8), (.mov (.c (.bool false))), none, 2⟩]
 [])
 .ret)
 .skip))
 (.seq (.seq (.reg [⟨(some 56), (.mov (.t 11)), none, 2⟩, ⟨(some 57), (.un .not (.t 56)), none, 2⟩]
 [])
 (.cond (.t 57)
 (.seq (.reg [⟨(some 58), (.mov (.t 10)), none, 2⟩, ⟨(some 59), (.len false (.t 58)), none, 2⟩, ⟨(some 60), (.eq false .sc (.t 59) (.c (.int 0))), none, 2⟩, ⟨(some 8), (.mov (.t 60)), none, 2⟩]
 [])
 .ret)
 .skip))
 (.seq (.reg [⟨(some 62), (.mov (.t 10)), none, 2⟩, ⟨(some 63), (.call (.c (.fn 20 [])) [(.t 62)]), none, 2⟩, ⟨(some 61), (.mov (.t 63)), none, 2⟩, ⟨(some 64), (.ext (.t 61) 0), none, 2⟩, ⟨(some 65), (.ext (.t 61) 1), none, 2⟩, ⟨(some 14), (.alloc (.agg [(.int 0), (.int 0), (.int 0), (.int 0), (.str []), (.u32 0), (.u32 0), (.u32 0), (.u32 0), (.u32 0), (.u32 0), (.u32 0), (.u32 0), (.u32 0), (.u32 0), (.u32 0), (.u32 0), (.u32 0), (.u32 0), (.u32 0), (.u32 0), (.sl true 0 0 (.agg []) true), (.sl true 0 0 (.agg []) true), (.sl true 0 0 (.agg []) true), (.sl true 0 0 (.agg []) true), (.sl true 0 0 (.agg []) true)])), none, 2⟩, ⟨none, (.store (some 26) (.t 14) (.t 64)), none, 2⟩, ⟨(some 15), (.mov (.t 65)), none, 2⟩]
 [])
 (.seq (.reg [⟨(some 66), (.mov (.t 15)), none, 2⟩, ⟨(some 67), (.mov (.t 66)), none, 2⟩, ⟨(some 68), (.load (some 26) (.t 9)), (some (67, true)), 2⟩, ⟨(some 69), (.load (some 26) (.t 14)), (some (67, true)), 2⟩, ⟨(some 70), (.call (.c (.fn 21 [])) [(.t 68), (.t 69)]), (some (67, true)), 2⟩, ⟨(some 71), (.pick (.t 67) (.t 70) (.c (.bool false))), none, 2⟩, ⟨(some 8), (.mov (.t 71)), none, 2⟩]
 [])
 .ret))))))))))
theorem c3_ok : comp (tiOf Try.prog) mu3 [19, 21, 22, 25, 34, 38, 41, 42, 43, 46, 50, 56, 57, 58, 59, 62, 63, 65, 66, 71, 72, 73, 74, 75, 76] N3 (Try.f3.body.getD .skip) = c3 := by kernel_rfl
theorem b3 : Try.f3.body = some (Try.f3.body.getD .skip) := by kernel_rfl
theorem run3 {Γ : G} (hsp : SpOK Try.prog Γ.sp) {args : List AV} {h : List AO} {own : Bool} {kn : Nat} {K : AV → List AO → Prop} (hl : args.length ≤ N3) (hk0 : Γ.k0 = hlen h) (hkn : hlen h ≤ kn)
    (hrun : run Γ c3 (leafK Γ.sp res3 own kn K) [] (leafK Γ.sp res3 own kn K) (argS 0 args) h) (htn : Γ.tn ≤ N3 := by exact Nat.zero_le _)
    (hrf : ∀ F, rfind Γ.rf F = true → FdIter Try.prog F ∧ ∀ args w, (callFunc F args).run Try.prog w = .ok (.enter F args) w := by exact fun F h => absurd h (show ¬ (false = true) from Bool.false_ne_true)) : ACalls Try.prog 3 args h K :=
  acalls_of_run (tiOf_ok _) hsp follows Try.func3 b3 (rs := Try.f3.results.toList) (Array.toArray_toList).symm (by kernel_rfl) (by kernel_rfl) c3_ok (by kernel_rfl) hl hk0 htn hrf hkn hrun
theorem in3 : ∀ args w, (callFunc 3 args).run Try.prog w = .ok (.enter 3 args) w := callFunc_enter Try.func3 (by kernel_rfl) (by kernel_rfl)

/-- sentinel/sentinellaw5.WireReads -/
def N4 : Nat := 170
def mu4 : List Nat := []
def keep4 : List Nat := [0, 1, 2, 3, 4, 5, 6, 7, 8, 18, 19, 21, 22, 23, 24, 25, 26, 27, 28, 29, 30, 32, 50, 62, 79, 142, 169]
def res4 : List RV := [(.t 18)]
def c4 : CC :=
 (.seq (.reg [⟨(some 18), (.mov (.c (.bool false))), none, 2⟩]
 [])
 (.seq (.seq (.reg [⟨(some 31), (.call (.c (.fn 15 [])) []), none, 2⟩, ⟨(some 32), (.un .not (.t 31)), none, 2⟩]
 [])
 (.cond (.t 32)
 (.seq (.reg [⟨(some 18), (.mov (.c (.bool false))), none, 2⟩]
 [])
 .ret)
 .skip))
 (.seq (.seq (.reg [⟨(some 33), (.mov (.t 2)), none, 2⟩, ⟨(some 34), (.len true (.t 33)), none, 2⟩, ⟨(some 35), (.bin .gtr (.t 34) (.c (.int 40))), none, 2⟩, ⟨(some 36), (.mov (.t 35)), none, 2⟩, ⟨(some 37), (.mov (.t 3)), (some (36, false)), 2⟩, ⟨(some 38), (.len false (.t 37)), (some (36, false)), 2⟩, ⟨(some 39), (.bin .gtr (.t 38) (.c (.int 130))), (some (36, false)), 2⟩, ⟨(some 40), (.pick (.t 36) (.c (.bool true)) (.t 39)), none, 2⟩, ⟨(some 41), (.mov (.t 40)), none, 2⟩, ⟨(some 42), (.mov (.t 7)), (some (41, false)), 2⟩, ⟨(some 43), (.len false (.t 42)), (some (41, false)), 2⟩, ⟨(some 44), (.bin .gtr (.t 43) (.c (.int 40))), (some (41, false)), 2⟩, ⟨(some 45), (.pick (.t 41) (.c (.bool true)) (.t 44)), none, 2⟩, ⟨(some 46), (.mov (.t 45)), none, 2⟩, ⟨(some 47), (.mov (.t 8)), (some (46, false)), 2⟩, ⟨(some 48), (.len false (.t 47)), (some (46, false)), 2⟩, ⟨(some 49), (.bin .gtr (.t 48) (.c (.int 250))), (some (46, false)), 2⟩, ⟨(some 50), (.pick (.t 46) (.c (.bool true)) (.t 49)), none, 2⟩]
 [])
 (.cond (.t 50)
 (.seq (.reg [⟨(some 18), (.mov (.c (.bool true))), none, 2⟩]
 [])
 .ret)
 .skip))
 (.seq (.reg [⟨(some 52), (.mov (.t 0)), none, 2⟩, ⟨(some 53), (.mov (.t 1)), none, 2⟩, ⟨(some 54), (.mov (.t 2)), none, 2⟩, ⟨(some 55), (.mov (.t 3)), none, 2⟩, ⟨(some 56), (.call (.c (.fn 16 [])) [(.t 52), (.t 53), (.t 54), (.t 55)]), none, 2⟩, ⟨(some 57), (.call (.c (.fn 18 [])) [(.t 56)]), none, 2⟩, ⟨(some 51), (.mov (.t 57)), none, 2⟩, ⟨(some 58), (.ext (.t 51) 0), none, 2⟩, ⟨(some 59), (.ext (.t 51) 1), none, 2⟩, ⟨(some 19), (.mov (.t 58)), none, 2⟩, ⟨(some 20), (.mov (.t 59)), none, 2⟩]
 [])
 (.seq (.seq (.reg [⟨(some 60), (.mov (.t 19)), none, 2⟩, ⟨(some 61), (.len false (.t 60)), none, 2⟩, ⟨(some 62), (.eq false .sc (.t 61) (.c (.int 0))), none, 2⟩]
 [])
 (.cond (.t 62)
 (.seq (.reg [⟨(some 18), (.mov (.c (.bool true))), none, 2⟩]
 [])
 .ret)
 .skip))
 (.seq (.reg [⟨(some 63), (.bsl false .u8 1 0 [(.u8 0)] []), none, 2⟩, ⟨(some 64), (.mov (.t 19)), none, 2⟩, ⟨(some 65), (.app true 1 1 (.t 63) (.t 64)), none, 2⟩, ⟨(some 21), (.mov (.t 65)), none, 2⟩]
 [])
 (.seq (.seq (.reg [⟨(some 22), (.mov (.c (.int 0))), none, 2⟩]
 [])
 (.block 0 (.loop (.seq (.seq (.reg [⟨(some 66), (.mov (.t 22)), none, 2⟩, ⟨(some 67), (.mov (.t 4)), none, 2⟩, ⟨(some 68), (.len false (.t 67)), none, 2⟩, ⟨(some 69), (.bin .lss (.t 66) (.t 68)), none, 2⟩, ⟨(some 70), (.mov (.t 69)), none, 2⟩, ⟨(some 71), (.mov (.t 22)), (some (70, true)), 2⟩, ⟨(some 72), (.mov (.t 5)), (some (70, true)), 2⟩, ⟨(some 73), (.len false (.t 72)), (some (70, true)), 2⟩, ⟨(some 74), (.bin .lss (.t 71) (.t 73)), (some (70, true)), 2⟩, ⟨(some 75), (.pick (.t 70) (.t 74) (.c (.bool false))), none, 2⟩, ⟨(some 76), (.mov (.t 75)), none, 2⟩, ⟨(some 77), (.mov (.t 22)), (some (76, true)), 2⟩, ⟨(some 78), (.bin .lss (.t 77) (.c (.int 3))), (some (76, true)), 2⟩, ⟨(some 79), (.pick (.t 76) (.t 78) (.c (.bool false))), none, 2⟩]
 [])
 (.cond (.t 79)
 .skip
 (.exit 0)))
 (.seq (.block 1 (.reg [⟨(some 82), (.mov (.t 21)), none, 0⟩, ⟨(some 83), (.mov (.t 4)), none, 0⟩, ⟨(some 84), (.mov (.t 22)), none, 0⟩, ⟨(some 85), (.iadS 1 (.t 83) (.t 84)), none, 0⟩, ⟨(some 86), (.load none (.t 85)), none, 1⟩, ⟨(some 87), (.mov (.t 21)), none, 0⟩, ⟨(some 88), (.len false (.t 87)), none, 0⟩, ⟨(some 89), (.call (.c (.fn 22 [])) [(.t 86), (.t 88)]), none, 0⟩, ⟨(some 90), (.iadS 1 (.t 82) (.t 89)), none, 0⟩, ⟨(some 91), (.load none (.t 90)), none, 1⟩, ⟨(some 92), (.mov (.t 5)), none, 0⟩, ⟨(some 93), (.mov (.t 22)), none, 0⟩, ⟨(some 94), (.iadS 1 (.t 92) (.t 93)), none, 0⟩, ⟨(some 95), (.load none (.t 94)), none, 1⟩, ⟨(some 96), (.bin .add (.t 91) (.t 95)), none, 0⟩, ⟨(some 97), (.iadS 1 (.t 82) (.t 89)), none, 0⟩, ⟨none, (.store none (.t 97) (.t 96)), none, 2⟩]
 []))
 (.reg [⟨(some 80), (.mov (.t 22)), none, 2⟩, ⟨(some 81), (.bin .add (.t 80) (.c (.int 1))), none, 2⟩, ⟨(some 22), (.mov (.t 81)), none, 2⟩]
 []))))))
 (.seq (.reg [⟨(some 98), (.mov (.t 6)), none, 2⟩, ⟨(some 99), (.mov (.t 19)), none, 2⟩, ⟨(some 100), (.len false (.t 99)), none, 2⟩, ⟨(some 101), (.bin .add (.t 100) (.c (.int 1))), none, 2⟩, ⟨(some 102), (.call (.c (.fn 22 [])) [(.t 98), (.t 101)]), none, 2⟩, ⟨(some 23), (.mov (.t 102)), none, 2⟩]
 [])
 (.seq (.reg [⟨(some 103), (.bsl false .u8 1 0 [(.u8 0)] []), none, 2⟩, ⟨(some 104), (.mov (.t 19)), none, 2⟩, ⟨(some 105), (.app true 1 1 (.t 103) (.t 104)), none, 2⟩, ⟨(some 106), (.mov (.t 7)), none, 2⟩, ⟨(some 107), (.app true 1 1 (.t 105) (.t 106)), none, 2⟩, ⟨(some 24), (.mov (.t 107)), none, 2⟩]
 [])
 (.seq (.reg [⟨(some 108), (.mov (.t 24)), none, 2⟩, ⟨(some 109), (.mov (.t 24)), none, 2⟩, ⟨(some 110), (.mov (.t 24)), none, 2⟩, ⟨(some 111), (.len false (.t 110)), none, 2⟩, ⟨(some 112), (.bin .sub (.t 111) (.c (.int 2))), none, 2⟩, ⟨(some 113), (.bin .shr (.t 112) (.c (.u64 8))), none, 2⟩, ⟨(some 114), (.conv .iu8 (.t 113)), none, 2⟩, ⟨(some 115), (.mov (.t 24)), none, 2⟩, ⟨(some 116), (.len false (.t 115)), none, 2⟩, ⟨(some 117), (.bin .sub (.t 116) (.c (.int 2))), none, 2⟩, ⟨(some 118), (.conv .iu8 (.t 117)), none, 2⟩, ⟨(some 119), (.iadS 1 (.t 108) (.c (.int 0))), none, 2⟩, ⟨none, (.store none (.t 119) (.t 114)), none, 2⟩, ⟨(some 120), (.iadS 1 (.t 109) (.c (.int 1))), none, 2⟩, ⟨none, (.store none (.t 120) (.t 118)), none, 2⟩]
 [])
 (.seq (.reg [⟨(some 121), (.mov (.t 21)), none, 0⟩, ⟨(some 122), (.mov (.t 19)), none, 0⟩, ⟨(some 123), (.mov (.t 23)), none, 0⟩, ⟨(some 124), (.slcS 1 (.t 122) none (some (.t 123)) none), none, 0⟩, ⟨(some 125), (.bsl false .u8 1 0 [(.u8 0)] []), none, 0⟩, ⟨(some 126), (.mov (.t 19)), none, 0⟩, ⟨(some 127), (.mov (.t 23)), none, 0⟩, ⟨(some 128), (.slcS 1 (.t 126) none (some (.t 127)) none), none, 0⟩, ⟨(some 129), (.app true 1 1 (.t 125) (.t 128)), none, 2⟩, ⟨(some 130), (.mov (.t 7)), none, 0⟩, ⟨(some 131), (.app true 1 1 (.t 129) (.t 130)), none, 2⟩, ⟨(some 132), (.mov (.t 19)), none, 0⟩, ⟨(some 133), (.mov (.t 23)), none, 0⟩, ⟨(some 134), (.slcS 1 (.t 132) (some (.t 133)) none none), none, 0⟩, ⟨(some 135), (.app true 1 1 (.t 131) (.t 134)), none, 2⟩, ⟨(some 136), (.mov (.t 8)), none, 0⟩, ⟨(some 137), (.mov (.t 24)), none, 0⟩, ⟨(some 138), (.bsl false .other 1 5 [(.sl true 0 0 (.agg []) true)] [(0, (1, (.t 121))), (1, (1, (.t 124))), (2, (1, (.t 135))), (3, (1, (.t 136))), (4, (1, (.t 137)))]), none, 0⟩, ⟨(some 25), (.mov (.t 138)), none, 0⟩]
 [])
 (.seq (.seq (.reg [⟨(some 26), (.mov (.c (.int 0))), none, 2⟩]
 [])
 (.block 2 (.loop (.seq (.seq (.reg [⟨(some 139), (.mov (.t 26)), none, 2⟩, ⟨(some 140), (.mov (.t 25)), none, 2⟩, ⟨(some 141), (.len false (.t 140)), none, 2⟩, ⟨(some 142), (.bin .lss (.t 139) (.t 141)), none, 2⟩]
 [])
 (.cond (.t 142)
 .skip
 (.exit 2)))
 (.seq (.block 3 (.seq (.reg [⟨(some 146), (.mov (.t 25)), none, 2⟩, ⟨(some 147), (.mov (.t 26)), none, 2⟩, ⟨(some 148), (.iadS 1 (.t 146) (.t 147)), none, 2⟩, ⟨(some 149), (.load none (.t 148)), none, 2⟩, ⟨(some 150), (.call (.c (.fn 20 [])) [(.t 149)]), none, 2⟩, ⟨(some 145), (.mov (.t 150)), none, 2⟩, ⟨(some 151), (.ext (.t 145) 0), none, 2⟩, ⟨(some 152), (.ext (.t 145) 1), none, 2⟩, ⟨(some 27), (.alloc (.agg [(.int 0), (.int 0), (.int 0), (.int 0), (.str []), (.u32 0), (.u32 0), (.u32 0), (.u32 0), (.u32 0), (.u32 0), (.u32 0), (.u32 0), (.u32 0), (.u32 0), (.u32 0), (.u32 0), (.u32 0), (.u32 0), (.u32 0), (.u32 0), (.sl true 0 0 (.agg []) true), (.sl true 0 0 (.agg []) true), (.sl true 0 0 (.agg []) true), (.sl true 0 0 (.agg []) true), (.sl true 0 0 (.agg []) true)])), none, 2⟩, ⟨none, (.store (some 26) (.t 27) (.t 151)), none, 2⟩, ⟨(some 28), (.mov (.t 152)), none, 2⟩]
 [])
 (.seq (.reg [⟨(some 154), (.mov (.t 25)), none, 2⟩, ⟨(some 155), (.mov (.t 26)), none, 2⟩, ⟨(some 156), (.iadS 1 (.t 154) (.t 155)), none, 2⟩, ⟨(some 157), (.load none (.t 156)), none, 2⟩, ⟨(some 158), (.call (.c (.fn 23 [])) [(.t 157)]), none, 2⟩, ⟨(some 153), (.mov (.t 158)), none, 2⟩, ⟨(some 159), (.ext (.t 153) 0), none, 2⟩, ⟨(some 160), (.ext (.t 153) 1), none, 2⟩, ⟨(some 29), (.alloc (.agg [(.int 0), (.int 0), (.int 0), (.int 0), (.str []), (.u32 0), (.u32 0), (.u32 0), (.u32 0), (.u32 0), (.u32 0), (.u32 0), (.u32 0), (.u32 0), (.u32 0), (.u32 0), (.u32 0), (.u32 0), (.u32 0), (.u32 0), (.u32 0), (.sl true 0 0 (.agg []) true), (.sl true 0 0 (.agg []) true), (.sl true 0 0 (.agg []) true), (.sl true 0 0 (.agg []) true), (.sl true 0 0 (.agg []) true)])), none, 2⟩, ⟨none, (.store (some 26) (.t 29) (.t 159)), none, 2⟩, ⟨(some 30), (.mov (.t 160)), none, 2⟩]
 [])
 (.seq (.reg [⟨(some 161), (.mov (.t 28)), none, 2⟩, ⟨(some 162), (.mov (.t 30)), none, 2⟩, ⟨(some 163), (.eq true .bool (.t 161) (.t 162)), none, 2⟩, ⟨(some 164), (.mov (.t 163)), none, 2⟩, ⟨(some 165), (.load (some 26) (.t 27)), (some (164, false)), 2⟩, ⟨(some 166), (.load (some 26) (.t 29)), (some (164, false)), 2⟩, ⟨(some 167), (.call (.c (.fn 21 [])) [(.t 165), (.t 166)]), (some (164, false)), 2⟩, ⟨(some 168), (.un .not (.t 167)), (some (164, false)), 2⟩, ⟨(some 169), (.pick (.t 164) (.c (.bool true)) (.t 168)), none, 2⟩]
 [])
 (.cond (.t 169)
 (.seq (.reg [⟨(some 18), (.mov (.c (.bool false))), none, 2⟩]
 [])
 .ret)
 .skip)))))
 (.reg [⟨(some 143), (.mov (.t 26)), none, 2⟩, ⟨(some 144), (.bin .add (.t 143) (.c (.int 1))), none, 2⟩, ⟨(some 26), (.mov (.t 144)), none, 2⟩]
 []))))))
 (.seq (.reg [⟨(some 18), (.mov (.c (.bool true))), none, 2⟩]
 [])
 .ret)))))))))))))
theorem c4_ok : comp (tiOf Try.prog) mu4 [19, 21, 22, 25, 34, 38, 41, 42, 43, 46, 50, 56, 57, 58, 59, 62, 63, 65, 66, 71, 72, 73, 74, 75, 76] N4 (Try.f4.body.getD .skip) = c4 := by kernel_rfl
theorem b4 : Try.f4.body = some (Try.f4.body.getD .skip) := by kernel_rfl
theorem run4 {Γ : G} (hsp : SpOK Try.prog Γ.sp) {args : List AV} {h : List AO} {own : Bool} {kn : Nat} {K : AV → List AO → Prop} (hl : args.length ≤ N4) (hk0 : Γ.k0 = hlen h) (hkn : hlen h ≤ kn)
    (hrun : run Γ c4 (leafK Γ.sp res4 own kn K) [] (leafK Γ.sp res4 own kn K) (argS 0 args) h) (htn : Γ.tn ≤ N4 := by exact Nat.zero_le _)
    (hrf : ∀ F, rfind Γ.rf F = true → FdIter Try.prog F ∧ ∀ args w, (callFunc F args).run Try.prog w = .ok (.enter F args) w := by exact fun F h => absurd h (show ¬ (false = true) from Bool.false_ne_true)) : ACalls Try.prog 4 args h K :=
  acalls_of_run (tiOf_ok _) hsp follows Try.func4 b4 (rs := Try.f4.results.toList) (Array.toArray_toList).symm (by kernel_rfl) (by kernel_rfl) c4_ok (by kernel_rfl) hl hk0 htn hrf hkn hrun
theorem in4 : ∀ args w, (callFunc 4 args).run Try.prog w = .ok (.enter 4 args) w := callFunc_enter Try.func4 (by kernel_rfl) (by kernel_rfl)

/-- sentinel/sentinellaw5.WireRight -/
def N5 : Nat := 163
def mu5 : List Nat := []
def keep5 : List Nat := [0, 1, 2, 3, 4, 5, 6, 14, 15, 16, 17, 18, 19, 21, 34, 41, 42, 51, 60, 64, 76, 88, 94, 100, 106, 112, 118, 127]
def res5 : List RV := [(.t 14)]
def c5 : CC :=
 (.seq (.reg [⟨(some 14), (.mov (.c (.bool false))), none, 2⟩]
 [])
 (.seq (.seq (.reg [⟨(some 20), (.call (.c (.fn 15 [])) []), none, 2⟩, ⟨(some 21), (.un .not (.t 20)), none, 2⟩]
 [])
 (.cond (.t 21)
 (.seq (.reg [⟨(some 14), (.mov (.c (.bool false))), none, 2⟩]
 [])
 .ret)
 .skip))
 (.seq (.seq (.reg [⟨(some 22), (.mov (.t 2)), none, 2⟩, ⟨(some 23), (.len true (.t 22)), none, 2⟩, ⟨(some 24), (.bin .gtr (.t 23) (.c (.int 40))), none, 2⟩, ⟨(some 25), (.mov (.t 24)), none, 2⟩, ⟨(some 26), (.mov (.t 3)), (some (25, false)), 2⟩, ⟨(some 27), (.len false (.t 26)), (some (25, false)), 2⟩, ⟨(some 28), (.bin .gtr (.t 27) (.c (.int 130))), (some (25, false)), 2⟩, ⟨(some 29), (.pick (.t 25) (.c (.bool true)) (.t 28)), none, 2⟩, ⟨(some 30), (.mov (.t 29)), none, 2⟩, ⟨(some 31), (.mov (.t 6)), (some (30, false)), 2⟩, ⟨(some 32), (.len true (.t 31)), (some (30, false)), 2⟩, ⟨(some 33), (.bin .gtr (.t 32) (.c (.int 40))), (some (30, false)), 2⟩, ⟨(some 34), (.pick (.t 30) (.c (.bool true)) (.t 33)), none, 2⟩]
 [])
 (.cond (.t 34)
 (.seq (.reg [⟨(some 14), (.mov (.c (.bool true))), none, 2⟩]
 [])
 .ret)
 .skip))
 (.seq (.reg [⟨(some 35), (.mov (.t 0)), none, 2⟩, ⟨(some 36), (.mov (.t 1)), none, 2⟩, ⟨(some 37), (.mov (.t 2)), none, 2⟩, ⟨(some 38), (.mov (.t 3)), none, 2⟩, ⟨(some 39), (.call (.c (.fn 16 [])) [(.t 35), (.t 36), (.t 37), (.t 38)]), none, 2⟩, ⟨(some 15), (.alloc (.agg [(.int 0), (.int 0), (.int 0), (.int 0), (.str []), (.u32 0), (.u32 0), (.u32 0), (.u32 0), (.u32 0), (.u32 0), (.u32 0), (.u32 0), (.u32 0), (.u32 0), (.u32 0), (.u32 0), (.u32 0), (.u32 0), (.u32 0), (.u32 0), (.sl true 0 0 (.agg []) true), (.sl true 0 0 (.agg []) true), (.sl true 0 0 (.agg []) true), (.sl true 0 0 (.agg []) true), (.sl true 0 0 (.agg []) true)])), none, 2⟩, ⟨none, (.store (some 26) (.t 15) (.t 39)), none, 2⟩]
 [])
 (.seq (.seq (.reg [⟨(some 40), (.mov (.t 4)), none, 2⟩, ⟨(some 41), (.call (.c (.fn 22 [])) [(.t 40), (.c (.int 12))]), none, 2⟩]
 [])
 (.block 0 (.seq (.reg [⟨(some 43), (.eq false .sc (.t 41) (.c (.int 0))), none, 2⟩, ⟨(some 42), (.mov (.t 43)), none, 2⟩]
 [])
 (.cond (.t 42)
 (.reg [⟨(some 44), (.mov (.t 5)), none, 2⟩, ⟨(some 45), (.bsl false .int 1 7 [(.int 0)] [(0, (1, (.c (.int (-1))))), (1, (1, (.c (.int 0)))), (2, (1, (.c (.int 1)))), (3, (1, (.c (.int 7)))), (4, (1, (.c (.int 12)))), (5, (1, (.c (.int 13)))), (6, (1, (.t 44)))]), none, 2⟩, ⟨(some 46), (.mov (.t 5)), none, 2⟩, ⟨(some 47), (.call (.c (.fn 22 [])) [(.t 46), (.c (.int 7))]), none, 2⟩, ⟨(some 48), (.iadS 1 (.t 45) (.t 47)), none, 2⟩, ⟨(some 49), (.load none (.t 48)), none, 2⟩, ⟨(some 50), (.fad 0 (.t 15)), none, 2⟩, ⟨none, (.store none (.t 50) (.t 49)), none, 2⟩]
 [])
 (.seq (.reg [⟨(some 52), (.eq false .sc (.t 41) (.c (.int 1))), none, 2⟩, ⟨(some 51), (.mov (.t 52)), none, 2⟩]
 [])
 (.cond (.t 51)
 (.reg [⟨(some 53), (.mov (.t 5)), none, 2⟩, ⟨(some 54), (.bsl false .int 1 6 [(.int 0)] [(0, (1, (.c (.int (-1))))), (1, (1, (.c (.int 0)))), (2, (1, (.c (.int 1)))), (3, (1, (.c (.int 2)))), (4, (1, (.c (.int 3)))), (5, (1, (.t 53)))]), none, 2⟩, ⟨(some 55), (.mov (.t 5)), none, 2⟩, ⟨(some 56), (.call (.c (.fn 22 [])) [(.t 55), (.c (.int 6))]), none, 2⟩, ⟨(some 57), (.iadS 1 (.t 54) (.t 56)), none, 2⟩, ⟨(some 58), (.load none (.t 57)), none, 2⟩, ⟨(some 59), (.fad 1 (.t 15)), none, 2⟩, ⟨none, (.store none (.t 59) (.t 58)), none, 2⟩]
 [])
 (.seq (.reg [⟨(some 61), (.eq false .sc (.t 41) (.c (.int 2))), none, 2⟩, ⟨(some 60), (.mov (.t 61)), none, 2⟩]
 [])
 (.cond (.t 60)
 (.reg [⟨(some 62), (.mov (.t 6)), none, 2⟩, ⟨(some 63), (.fad 4 (.t 15)), none, 2⟩, ⟨none, (.store none (.t 63) (.t 62)), none, 2⟩]
 [])
 (.seq (.reg [⟨(some 65), (.eq false .sc (.t 41) (.c (.int 3))), none, 2⟩, ⟨(some 64), (.mov (.t 65)), none, 2⟩]
 [])
 (.cond (.t 64)
 (.reg [⟨(some 66), (.build [(.u32 0), (.u32 0), (.u32 0), (.u32 0), (.u32 0), (.u32 0), (.u32 0), (.u32 0)] []), none, 2⟩, ⟨(some 67), (.call (.c (.fn 24 [])) [(.c (.int 4294967295))]), none, 2⟩, ⟨(some 68), (.call (.c (.fn 24 [])) [(.c (.int 4294967296))]), none, 2⟩, ⟨(some 69), (.build [(.u32 0), (.u32 0), (.u32 0), (.u32 0), (.u32 0), (.u32 0), (.u32 0), (.u32 0)] [(0, (1, (.c (.u32 0)))), (1, (1, (.c (.u32 0)))), (2, (1, (.c (.u32 0)))), (3, (1, (.c (.u32 0)))), (4, (1, (.c (.u32 0)))), (5, (1, (.c (.u32 0)))), (6, (1, (.c (.u32 0)))), (7, (1, (.c (.u32 1))))]), none, 2⟩, ⟨(some 70), (.bsl false .other 8 4 [(.u32 0), (.u32 0), (.u32 0), (.u32 0), (.u32 0), (.u32 0), (.u32 0), (.u32 0)] [(0, (8, (.t 66))), (8, (8, (.t 67))), (16, (8, (.t 68))), (24, (8, (.t 69)))]), none, 2⟩, ⟨(some 71), (.mov (.t 5)), none, 2⟩, ⟨(some 72), (.call (.c (.fn 22 [])) [(.t 71), (.c (.int 4))]), none, 2⟩, ⟨(some 73), (.iadS 8 (.t 70) (.t 72)), none, 2⟩, ⟨(some 74), (.load (some 8) (.t 73)), none, 2⟩, ⟨(some 75), (.fad 5 (.t 15)), none, 2⟩, ⟨none, (.store (some 8) (.t 75) (.t 74)), none, 2⟩]
 [])
 (.seq (.reg [⟨(some 77), (.eq false .sc (.t 41) (.c (.int 4))), none, 2⟩, ⟨(some 76), (.mov (.t 77)), none, 2⟩]
 [])
 (.cond (.t 76)
 (.reg [⟨(some 78), (.build [(.u32 0), (.u32 0), (.u32 0), (.u32 0), (.u32 0), (.u32 0), (.u32 0), (.u32 0)] []), none, 2⟩, ⟨(some 79), (.call (.c (.fn 24 [])) [(.c (.int 4294967295))]), none, 2⟩, ⟨(some 80), (.call (.c (.fn 24 [])) [(.c (.int 4294967296))]), none, 2⟩, ⟨(some 81), (.build [(.u32 0), (.u32 0), (.u32 0), (.u32 0), (.u32 0), (.u32 0), (.u32 0), (.u32 0)] [(0, (1, (.c (.u32 0)))), (1, (1, (.c (.u32 0)))), (2, (1, (.c (.u32 0)))), (3, (1, (.c (.u32 0)))), (4, (1, (.c (.u32 1))))]), none, 2⟩, ⟨(some 82), (.bsl false .other 8 4 [(.u32 0), (.u32 0), (.u32 0), (.u32 0), (.u32 0), (.u32 0), (.u32 0), (.u32 0)] [(0, (8, (.t 78))), (8, (8, (.t 79))), (16, (8, (.t 80))), (24, (8, (.t 81)))]), none, 2⟩, ⟨(some 83), (.mov (.t 5)), none, 2⟩, ⟨(some 84), (.call (.c (.fn 22 [])) [(.t 83), (.c (.int 4))]), none, 2⟩, ⟨(some 85), (.iadS 8 (.t 82) (.t 84)), none, 2⟩, ⟨(some 86), (.load (some 8) (.t 85)), none, 2⟩, ⟨(some 87), (.fad 13 (.t 15)), none, 2⟩, ⟨none, (.store (some 8) (.t 87) (.t 86)), none, 2⟩]
 [])
 (.seq (.reg [⟨(some 89), (.eq false .sc (.t 41) (.c (.int 5))), none, 2⟩, ⟨(some 88), (.mov (.t 89)), none, 2⟩]
 [])
 (.cond (.t 88)
 (.reg [⟨(some 90), (.mov (.t 5)), none, 2⟩, ⟨(some 91), (.call (.c (.fn 22 [])) [(.t 90), (.c (.int 19))]), none, 2⟩, ⟨(some 92), (.mksl .u8 1 1 [(.u8 0)] (.t 91) (.t 91)), none, 2⟩, ⟨(some 93), (.fad 21 (.t 15)), none, 2⟩, ⟨none, (.store none (.t 93) (.t 92)), none, 2⟩]
 [])
 (.seq (.reg [⟨(some 95), (.eq false .sc (.t 41) (.c (.int 6))), none, 2⟩, ⟨(some 94), (.mov (.t 95)), none, 2⟩]
 [])
 (.cond (.t 94)
 (.reg [⟨(some 96), (.mov (.t 5)), none, 2⟩, ⟨(some 97), (.call (.c (.fn 22 [])) [(.t 96), (.c (.int 52))]), none, 2⟩, ⟨(some 98), (.mksl .u8 1 1 [(.u8 0)] (.t 97) (.t 97)), none, 2⟩, ⟨(some 99), (.fad 22 (.t 15)), none, 2⟩, ⟨none, (.store none (.t 99) (.t 98)), none, 2⟩]
 [])
 (.seq (.reg [⟨(some 101), (.eq false .sc (.t 41) (.c (.int 7))), none, 2⟩, ⟨(some 100), (.mov (.t 101)), none, 2⟩]
 [])
 (.cond (.t 100)
 (.reg [⟨(some 102), (.mov (.t 5)), none, 2⟩, ⟨(some 103), (.call (.c (.fn 22 [])) [(.t 102), (.c (.int 19))]), none, 2⟩, ⟨(some 104), (.mksl .u8 1 1 [(.u8 0)] (.t 103) (.t 103)), none, 2⟩, ⟨(some 105), (.fad 23 (.t 15)), none, 2⟩, ⟨none, (.store none (.t 105) (.t 104)), none, 2⟩]
 [])
 (.seq (.reg [⟨(some 107), (.eq false .sc (.t 41) (.c (.int 8))), none, 2⟩, ⟨(some 106), (.mov (.t 107)), none, 2⟩]
 [])
 (.cond (.t 106)
 (.reg [⟨(some 108), (.mov (.t 5)), none, 2⟩, ⟨(some 109), (.call (.c (.fn 22 [])) [(.t 108), (.c (.int 84))]), none, 2⟩, ⟨(some 110), (.mksl .u8 1 1 [(.u8 0)] (.t 109) (.t 109)), none, 2⟩, ⟨(some 111), (.fad 24 (.t 15)), none, 2⟩, ⟨none, (.store none (.t 111) (.t 110)), none, 2⟩]
 [])
 (.seq (.reg [⟨(some 113), (.eq false .sc (.t 41) (.c (.int 9))), none, 2⟩, ⟨(some 112), (.mov (.t 113)), none, 2⟩]
 [])
 (.cond (.t 112)
 (.reg [⟨(some 114), (.mov (.t 5)), none, 2⟩, ⟨(some 115), (.call (.c (.fn 22 [])) [(.t 114), (.c (.int 124))]), none, 2⟩, ⟨(some 116), (.mksl .u8 1 1 [(.u8 0)] (.t 115) (.t 115)), none, 2⟩, ⟨(some 117), (.fad 25 (.t 15)), none, 2⟩, ⟨none, (.store none (.t 117) (.t 116)), none, 2⟩]
 [])
 (.seq (.reg [⟨(some 119), (.eq false .sc (.t 41) (.c (.int 10))), none, 2⟩, ⟨(some 118), (.mov (.t 119)), none, 2⟩]
 [])
 (.cond (.t 118)
 (.reg [⟨(some 120), (.mov (.t 5)), none, 2⟩, ⟨(some 121), (.bsl false .int 1 5 [(.int 0)] [(0, (1, (.c (.int 0)))), (1, (1, (.c (.int 1)))), (2, (1, (.c (.int (-1))))), (3, (1, (.c (.int 9223372036854775807)))), (4, (1, (.t 120)))]), none, 2⟩, ⟨(some 122), (.mov (.t 5)), none, 2⟩, ⟨(some 123), (.call (.c (.fn 22 [])) [(.t 122), (.c (.int 5))]), none, 2⟩, ⟨(some 124), (.iadS 1 (.t 121) (.t 123)), none, 2⟩, ⟨(some 125), (.load none (.t 124)), none, 2⟩, ⟨(some 126), (.fad 2 (.t 15)), none, 2⟩, ⟨none, (.store none (.t 126) (.t 125)), none, 2⟩]
 [])
 (.seq (.reg [⟨(some 128), (.eq false .sc (.t 41) (.c (.int 11))), none, 2⟩, ⟨(some 127), (.mov (.t 128)), none, 2⟩]
 [])
 (.cond (.t 127)
 (.reg [⟨(some 129), (.mov (.t 5)), none, 2⟩, ⟨(some 130), (.bsl false .int 1 6 [(.int 0)] [(0, (1, (.c (.int (-1))))), (1, (1, (.c (.int 0)))), (2, (1, (.c (.int 1)))), (3, (1, (.c (.int 11)))), (4, (1, (.c (.int 12)))), (5, (1, (.t 129)))]), none, 2⟩, ⟨(some 131), (.mov (.t 5)), none, 2⟩, ⟨(some 132), (.call (.c (.fn 22 [])) [(.t 131), (.c (.int 6))]), none, 2⟩, ⟨(some 133), (.iadS 1 (.t 130) (.t 132)), none, 2⟩, ⟨(some 134), (.load none (.t 133)), none, 2⟩, ⟨(some 135), (.fad 3 (.t 15)), none, 2⟩, ⟨none, (.store none (.t 135) (.t 134)), none, 2⟩]
 [])
 .skip))))))))))))))))))))))))))
 (.seq (.reg [⟨(some 137), (.load (some 26) (.t 15)), none, 2⟩, ⟨(some 138), (.call (.c (.fn 17 [])) [(.t 137)]), none, 2⟩, ⟨(some 136), (.mov (.t 138)), none, 2⟩, ⟨(some 139), (.ext (.t 136) 0), none, 2⟩, ⟨(some 140), (.ext (.t 136) 1), none, 2⟩, ⟨(some 16), (.mov (.t 139)), none, 2⟩, ⟨(some 17), (.mov (.t 140)), none, 2⟩]
 [])
 (.seq (.reg [⟨(some 142), (.load (some 26) (.t 15)), none, 2⟩, ⟨(some 143), (.call (.c (.fn 18 [])) [(.t 142)]), none, 2⟩, ⟨(some 141), (.mov (.t 143)), none, 2⟩, ⟨(some 144), (.ext (.t 141) 0), none, 2⟩, ⟨(some 145), (.ext (.t 141) 1), none, 2⟩, ⟨(some 18), (.mov (.t 144)), none, 2⟩, ⟨(some 19), (.mov (.t 145)), none, 2⟩]
 [])
 (.seq (.reg [⟨(some 146), (.load (some 26) (.t 15)), none, 1⟩, ⟨(some 147), (.call (.c (.fn 19 [])) [(.t 146)]), none, 0⟩, ⟨(some 148), (.load (some 26) (.t 15)), none, 1⟩, ⟨(some 149), (.call (.c (.fn 25 [])) [(.t 148)]), none, 0⟩, ⟨(some 150), (.eq false .bool (.t 147) (.t 149)), none, 0⟩, ⟨(some 151), (.mov (.t 150)), none, 0⟩, ⟨(some 152), (.mov (.t 17)), (some (151, true)), 0⟩, ⟨(some 153), (.mov (.t 19)), (some (151, true)), 0⟩, ⟨(some 154), (.eq false .bool (.t 152) (.t 153)), (some (151, true)), 0⟩, ⟨(some 155), (.pick (.t 151) (.t 154) (.c (.bool false))), none, 0⟩, ⟨(some 156), (.mov (.t 155)), none, 0⟩, ⟨(some 157), (.mov (.t 16)), (some (156, true)), 0⟩, ⟨(some 158), (.conv .bstr (.t 157)), (some (156, true)), 1⟩, ⟨(some 159), (.mov (.t 18)), (some (156, true)), 0⟩, ⟨(some 160), (.conv .bstr (.t 159)), (some (156, true)), 1⟩, ⟨(some 161), (.eq false .sc (.t 158) (.t 160)), (some (156, true)), 0⟩, ⟨(some 162), (.pick (.t 156) (.t 161) (.c (.bool false))), none, 0⟩, ⟨(some 14), (.mov (.t 162)), none, 0⟩]
 [])
 .ret))))))))
theorem c5_ok : comp (tiOf Try.prog) mu5 [19, 21, 22, 25, 34, 38, 41, 42, 43, 46, 50, 56, 57, 58, 59, 62, 63, 65, 66, 71, 72, 73, 74, 75, 76] N5 (Try.f5.body.getD .skip) = c5 := by kernel_rfl
theorem b5 : Try.f5.body = some (Try.f5.body.getD .skip) := by kernel_rfl
theorem run5 {Γ : G} (hsp : SpOK Try.prog Γ.sp) {args : List AV} {h : List AO} {own : Bool} {kn : Nat} {K : AV → List AO → Prop} (hl : args.length ≤ N5) (hk0 : Γ.k0 = hlen h) (hkn : hlen h ≤ kn)
    (hrun : run Γ c5 (leafK Γ.sp res5 own kn K) [] (leafK Γ.sp res5 own kn K) (argS 0 args) h) (htn : Γ.tn ≤ N5 := by exact Nat.zero_le _)
    (hrf : ∀ F, rfind Γ.rf F = true → FdIter Try.prog F ∧ ∀ args w, (callFunc F args).run Try.prog w = .ok (.enter F args) w := by exact fun F h => absurd h (show ¬ (false = true) from Bool.false_ne_true)) : ACalls Try.prog 5 args h K :=
  acalls_of_run (tiOf_ok _) hsp follows Try.func5 b5 (rs := Try.f5.results.toList) (Array.toArray_toList).symm (by kernel_rfl) (by kernel_rfl) c5_ok (by kernel_rfl) hl hk0 htn hrf hkn hrun
theorem in5 : ∀ args w, (callFunc 5 args).run Try.prog w = .ok (.enter 5 args) w := callFunc_enter Try.func5 (by kernel_rfl) (by kernel_rfl)

/-- sentinel/sentinellaw5.WireStreams -/
def N6 : Nat := 163
def mu6 : List Nat := []
def keep6 : List Nat := [0, 1, 2, 3, 4, 5, 6, 14, 15, 16, 17, 19, 20, 21, 22, 23, 24, 25, 26, 27, 28, 30, 38, 46, 68, 82, 90, 96, 124, 129, 157]
def res6 : List RV := [(.t 14)]
def c6 : CC :=
 (.seq (.reg [⟨(some 14), (.mov (.c (.bool false))), none, 2⟩]
 [])
 (.seq (.seq (.reg [⟨(some 29), (.call (.c (.fn 15 [])) []), none, 2⟩, ⟨(some 30), (.un .not (.t 29)), none, 2⟩]
 [])
 (.cond (.t 30)
 (.seq (.reg [⟨(some 14), (.mov (.c (.bool false))), none, 2⟩]
 [])
 .ret)
 .skip))
 (.seq (.seq (.reg [⟨(some 31), (.mov (.t 2)), none, 2⟩, ⟨(some 32), (.len true (.t 31)), none, 2⟩, ⟨(some 33), (.bin .gtr (.t 32) (.c (.int 40))), none, 2⟩, ⟨(some 34), (.mov (.t 33)), none, 2⟩, ⟨(some 35), (.mov (.t 3)), (some (34, false)), 2⟩, ⟨(some 36), (.len false (.t 35)), (some (34, false)), 2⟩, ⟨(some 37), (.bin .gtr (.t 36) (.c (.int 100))), (some (34, false)), 2⟩, ⟨(some 38), (.pick (.t 34) (.c (.bool true)) (.t 37)), none, 2⟩]
 [])
 (.cond (.t 38)
 (.seq (.reg [⟨(some 14), (.mov (.c (.bool true))), none, 2⟩]
 [])
 .ret)
 .skip))
 (.seq (.reg [⟨(some 15), (.mov (.c (.sl true 0 0 (.agg []) true))), none, 2⟩]
 [])
 (.seq (.seq (.reg [⟨(some 16), (.mov (.c (.int 0))), none, 2⟩]
 [])
 (.block 0 (.loop (.seq (.seq (.reg [⟨(some 39), (.mov (.t 16)), none, 2⟩, ⟨(some 40), (.mov (.t 0)), none, 2⟩, ⟨(some 41), (.len false (.t 40)), none, 2⟩, ⟨(some 42), (.bin .lss (.t 39) (.t 41)), none, 2⟩, ⟨(some 43), (.mov (.t 42)), none, 2⟩, ⟨(some 44), (.mov (.t 16)), (some (43, true)), 2⟩, ⟨(some 45), (.bin .lss (.t 44) (.c (.int 8))), (some (43, true)), 2⟩, ⟨(some 46), (.pick (.t 43) (.t 45) (.c (.bool false))), none, 2⟩]
 [])
 (.cond (.t 46)
 .skip
 (.exit 0)))
 (.seq (.block 1 (.seq (.reg [⟨(some 50), (.mov (.t 0)), none, 2⟩, ⟨(some 51), (.mov (.t 16)), none, 2⟩, ⟨(some 52), (.iadS 1 (.t 50) (.t 51)), none, 2⟩, ⟨(some 53), (.load none (.t 52)), none, 2⟩, ⟨(some 54), (.mov (.t 1)), none, 2⟩, ⟨(some 55), (.mov (.t 16)), none, 2⟩, ⟨(some 56), (.bin .add (.t 54) (.t 55)), none, 2⟩, ⟨(some 57), (.mov (.t 2)), none, 2⟩, ⟨(some 58), (.mov (.t 3)), none, 2⟩, ⟨(some 59), (.call (.c (.fn 16 [])) [(.t 53), (.t 56), (.t 57), (.t 58)]), none, 2⟩, ⟨(some 60), (.call (.c (.fn 18 [])) [(.t 59)]), none, 2⟩, ⟨(some 49), (.mov (.t 60)), none, 2⟩, ⟨(some 61), (.ext (.t 49) 0), none, 2⟩, ⟨(some 62), (.ext (.t 49) 1), none, 2⟩, ⟨(some 17), (.mov (.t 61)), none, 2⟩, ⟨(some 18), (.mov (.t 62)), none, 2⟩]
 [])
 (.reg [⟨(some 63), (.mov (.t 15)), none, 2⟩, ⟨(some 64), (.mov (.t 17)), none, 2⟩, ⟨(some 65), (.app true 1 1 (.t 63) (.t 64)), none, 2⟩, ⟨(some 15), (.mov (.t 65)), none, 2⟩]
 [])))
 (.reg [⟨(some 47), (.mov (.t 16)), none, 2⟩, ⟨(some 48), (.bin .add (.t 47) (.c (.int 1))), none, 2⟩, ⟨(some 16), (.mov (.t 48)), none, 2⟩]
 []))))))
 (.seq (.seq (.reg [⟨(some 66), (.mov (.t 15)), none, 2⟩, ⟨(some 67), (.len false (.t 66)), none, 2⟩, ⟨(some 68), (.bin .gtr (.t 67) (.c (.int 0))), none, 2⟩]
 [])
 (.cond (.t 68)
 (.reg [⟨(some 69), (.mov (.t 15)), none, 2⟩, ⟨(some 70), (.mov (.t 5)), none, 2⟩, ⟨(some 71), (.mov (.t 15)), none, 2⟩, ⟨(some 72), (.len false (.t 71)), none, 2⟩, ⟨(some 73), (.call (.c (.fn 22 [])) [(.t 70), (.t 72)]), none, 2⟩, ⟨(some 74), (.iadS 1 (.t 69) (.t 73)), none, 2⟩, ⟨(some 75), (.load none (.t 74)), none, 2⟩, ⟨(some 76), (.mov (.t 6)), none, 2⟩, ⟨(some 77), (.bin .add (.t 75) (.t 76)), none, 2⟩, ⟨(some 78), (.iadS 1 (.t 69) (.t 73)), none, 2⟩, ⟨none, (.store none (.t 78) (.t 77)), none, 2⟩]
 [])
 .skip))
 (.seq (.reg [⟨(some 79), (.call (.c (.fn 26 [])) []), none, 2⟩, ⟨(some 80), (.call (.c (.fn 27 [])) []), none, 2⟩, ⟨(some 19), (.mov (.t 79)), none, 2⟩, ⟨(some 20), (.mov (.t 80)), none, 2⟩]
 [])
 (.seq (.seq (.reg [⟨(some 81), (.mov (.t 19)), none, 2⟩, ⟨(some 82), (.eq false .ptr (.t 81) (.c .nilp)), none, 2⟩]
 [])
 (.cond (.t 82)
 (.seq (.reg [⟨(some 14), (.mov (.c (.bool false))), none, 2⟩]
 [])
 .ret)
 .skip))
 (.seq (.reg [⟨(some 21), (.mov (.c (.int 0))), none, 2⟩]
 [])
 (.seq (.seq (.reg [⟨(some 22), (.mov (.c (.int 0))), none, 2⟩]
 [])
 (.block 2 (.loop (.seq (.seq (.reg [⟨(some 83), (.mov (.t 21)), none, 2⟩, ⟨(some 84), (.mov (.t 15)), none, 2⟩, ⟨(some 85), (.len false (.t 84)), none, 2⟩, ⟨(some 86), (.bin .lss (.t 83) (.t 85)), none, 2⟩, ⟨(some 87), (.mov (.t 86)), none, 2⟩, ⟨(some 88), (.mov (.t 22)), (some (87, false)), 2⟩, ⟨(some 89), (.eq false .sc (.t 88) (.c (.int 0))), (some (87, false)), 2⟩, ⟨(some 90), (.pick (.t 87) (.c (.bool true)) (.t 89)), none, 2⟩]
 [])
 (.cond (.t 90)
 .skip
 (.exit 2)))
 (.seq (.block 3 (.seq (.reg [⟨(some 23), (.mov (.c (.int 1))), none, 2⟩]
 [])
 (.seq (.seq (.reg [⟨(some 93), (.mov (.t 22)), none, 2⟩, ⟨(some 94), (.mov (.t 4)), none, 2⟩, ⟨(some 95), (.len false (.t 94)), none, 2⟩, ⟨(some 96), (.bin .lss (.t 93) (.t 95)), none, 2⟩]
 [])
 (.cond (.t 96)
 (.reg [⟨(some 97), (.mov (.t 4)), none, 2⟩, ⟨(some 98), (.mov (.t 22)), none, 2⟩, ⟨(some 99), (.iadS 1 (.t 97) (.t 98)), none, 2⟩, ⟨(some 100), (.load none (.t 99)), none, 2⟩, ⟨(some 101), (.call (.c (.fn 22 [])) [(.t 100), (.c (.int 60))]), none, 2⟩, ⟨(some 23), (.mov (.t 101)), none, 2⟩]
 [])
 .skip))
 (.seq (.reg [⟨(some 102), (.mov (.t 23)), none, 2⟩, ⟨(some 103), (.mov (.t 15)), none, 2⟩, ⟨(some 104), (.len false (.t 103)), none, 2⟩, ⟨(some 105), (.mov (.t 21)), none, 2⟩, ⟨(some 106), (.bin .sub (.t 104) (.t 105)), none, 2⟩, ⟨(some 107), (.mn (.t 102) (.t 106)), none, 2⟩, ⟨(some 23), (.mov (.t 107)), none, 2⟩]
 [])
 (.seq (.seq (.reg [⟨(some 108), (.mov (.t 19)), none, 0⟩, ⟨(some 109), (.mov (.t 15)), none, 0⟩, ⟨(some 110), (.mov (.t 21)), none, 0⟩, ⟨(some 111), (.mov (.t 21)), none, 0⟩, ⟨(some 112), (.mov (.t 23)), none, 0⟩, ⟨(some 113), (.bin .add (.t 111) (.t 112)), none, 0⟩, ⟨(some 114), (.slcS 1 (.t 109) (some (.t 110)) (some (.t 113)) none), none, 0⟩, ⟨(some 115), (.call (.c (.fn 28 [])) [(.t 108), (.t 114)]), none, 2⟩, ⟨(some 116), (.mov (.t 20)), none, 0⟩, ⟨(some 117), (.mov (.t 15)), none, 0⟩, ⟨(some 118), (.mov (.t 21)), none, 0⟩, ⟨(some 119), (.mov (.t 21)), none, 0⟩, ⟨(some 120), (.mov (.t 23)), none, 0⟩, ⟨(some 121), (.bin .add (.t 119) (.t 120)), none, 0⟩, ⟨(some 122), (.slcS 1 (.t 117) (some (.t 118)) (some (.t 121)) none), none, 0⟩, ⟨(some 123), (.call (.c (.fn 29 [])) [(.t 116), (.t 122)]), none, 2⟩, ⟨(some 124), (.eq true .bool (.t 115) (.t 123)), none, 0⟩]
 [])
 (.cond (.t 124)
 (.seq (.reg [⟨(some 14), (.mov (.c (.bool false))), none, 2⟩]
 [])
 .ret)
 .skip))
 (.seq (.reg [⟨(some 125), (.mov (.t 21)), none, 2⟩, ⟨(some 126), (.mov (.t 23)), none, 2⟩, ⟨(some 127), (.bin .add (.t 125) (.t 126)), none, 2⟩, ⟨(some 21), (.mov (.t 127)), none, 2⟩]
 [])
 (.seq (.reg [⟨(some 24), (.mov (.c (.int 0))), none, 2⟩]
 [])
 (.block 4 (.loop (.seq (.seq (.reg [⟨(some 128), (.mov (.t 24)), none, 2⟩, ⟨(some 129), (.bin .lss (.t 128) (.c (.int 3))), none, 2⟩]
 [])
 (.cond (.t 129)
 .skip
 (.exit 4)))
 (.seq (.block 5 (.seq (.reg [⟨(some 133), (.mov (.t 19)), none, 2⟩, ⟨(some 134), (.call (.c (.fn 30 [])) [(.t 133)]), none, 2⟩, ⟨(some 132), (.mov (.t 134)), none, 2⟩, ⟨(some 135), (.ext (.t 132) 0), none, 2⟩, ⟨(some 136), (.ext (.t 132) 1), none, 2⟩, ⟨(some 25), (.alloc (.agg [(.int 0), (.int 0), (.int 0), (.int 0), (.str []), (.u32 0), (.u32 0), (.u32 0), (.u32 0), (.u32 0), (.u32 0), (.u32 0), (.u32 0), (.u32 0), (.u32 0), (.u32 0), (.u32 0), (.u32 0), (.u32 0), (.u32 0), (.u32 0), (.sl true 0 0 (.agg []) true), (.sl true 0 0 (.agg []) true), (.sl true 0 0 (.agg []) true), (.sl true 0 0 (.agg []) true), (.sl true 0 0 (.agg []) true)])), none, 2⟩, ⟨none, (.store (some 26) (.t 25) (.t 135)), none, 2⟩, ⟨(some 26), (.mov (.t 136)), none, 2⟩]
 [])
 (.seq (.reg [⟨(some 138), (.mov (.t 20)), none, 2⟩, ⟨(some 139), (.call (.c (.fn 31 [])) [(.t 138)]), none, 2⟩, ⟨(some 137), (.mov (.t 139)), none, 2⟩, ⟨(some 140), (.ext (.t 137) 0), none, 2⟩, ⟨(some 141), (.ext (.t 137) 1), none, 2⟩, ⟨(some 27), (.alloc (.agg [(.int 0), (.int 0), (.int 0), (.int 0), (.str []), (.u32 0), (.u32 0), (.u32 0), (.u32 0), (.u32 0), (.u32 0), (.u32 0), (.u32 0), (.u32 0), (.u32 0), (.u32 0), (.u32 0), (.u32 0), (.u32 0), (.u32 0), (.u32 0), (.sl true 0 0 (.agg []) true), (.sl true 0 0 (.agg []) true), (.sl true 0 0 (.agg []) true), (.sl true 0 0 (.agg []) true), (.sl true 0 0 (.agg []) true)])), none, 2⟩, ⟨none, (.store (some 26) (.t 27) (.t 140)), none, 2⟩, ⟨(some 28), (.mov (.t 141)), none, 2⟩]
 [])
 (.seq (.reg [⟨(some 142), (.mov (.t 26)), none, 2⟩, ⟨(some 143), (.mov (.t 28)), none, 2⟩, ⟨(some 144), (.eq true .bool (.t 142) (.t 143)), none, 2⟩, ⟨(some 145), (.mov (.t 144)), none, 2⟩, ⟨(some 146), (.load (some 26) (.t 25)), (some (145, false)), 2⟩, ⟨(some 147), (.load (some 26) (.t 27)), (some (145, false)), 2⟩, ⟨(some 148), (.call (.c (.fn 21 [])) [(.t 146), (.t 147)]), (some (145, false)), 2⟩, ⟨(some 149), (.un .not (.t 148)), (some (145, false)), 2⟩, ⟨(some 150), (.pick (.t 145) (.c (.bool true)) (.t 149)), none, 2⟩, ⟨(some 151), (.mov (.t 150)), none, 2⟩, ⟨(some 152), (.mov (.t 19)), (some (151, false)), 2⟩, ⟨(some 153), (.call (.c (.fn 32 [])) [(.t 152)]), (some (151, false)), 2⟩, ⟨(some 154), (.mov (.t 20)), (some (151, false)), 2⟩, ⟨(some 155), (.call (.c (.fn 33 [])) [(.t 154)]), (some (151, false)), 2⟩, ⟨(some 156), (.eq true .bool (.t 153) (.t 155)), (some (151, false)), 2⟩, ⟨(some 157), (.pick (.t 151) (.c (.bool true)) (.t 156)), none, 2⟩]
 [])
 (.cond (.t 157)
 (.seq (.reg [⟨(some 14), (.mov (.c (.bool false))), none, 2⟩]
 [])
 .ret)
 .skip)))))
 (.reg [⟨(some 130), (.mov (.t 24)), none, 2⟩, ⟨(some 131), (.bin .add (.t 130) (.c (.int 1))), none, 2⟩, ⟨(some 24), (.mov (.t 131)), none, 2⟩]
 []))))))))))))
 (.reg [⟨(some 91), (.mov (.t 22)), none, 2⟩, ⟨(some 92), (.bin .add (.t 91) (.c (.int 1))), none, 2⟩, ⟨(some 22), (.mov (.t 92)), none, 2⟩]
 []))))))
 (.seq (.reg [⟨(some 158), (.mov (.t 19)), none, 2⟩, ⟨(some 159), (.call (.c (.fn 28 [])) [(.t 158), (.c (.sl true 0 0 (.agg []) true))]), none, 2⟩, ⟨(some 160), (.mov (.t 20)), none, 2⟩, ⟨(some 161), (.call (.c (.fn 29 [])) [(.t 160), (.c (.sl true 0 0 (.agg []) true))]), none, 2⟩, ⟨(some 162), (.eq false .bool (.t 159) (.t 161)), none, 2⟩, ⟨(some 14), (.mov (.t 162)), none, 2⟩]
 [])
 .ret)))))))))))
theorem c6_ok : comp (tiOf Try.prog) mu6 [19, 21, 22, 25, 34, 38, 41, 42, 43, 46, 50, 56, 57, 58, 59, 62, 63, 65, 66, 71, 72, 73, 74, 75, 76] N6 (Try.f6.body.getD .skip) = c6 := by kernel_rfl
theorem b6 : Try.f6.body = some (Try.f6.body.getD .skip) := by kernel_rfl
theorem run6 {Γ : G} (hsp : SpOK Try.prog Γ.sp) {args : List AV} {h : List AO} {own : Bool} {kn : Nat} {K : AV → List AO → Prop} (hl : args.length ≤ N6) (hk0 : Γ.k0 = hlen h) (hkn : hlen h ≤ kn)
    (hrun : run Γ c6 (leafK Γ.sp res6 own kn K) [] (leafK Γ.sp res6 own kn K) (argS 0 args) h) (htn : Γ.tn ≤ N6 := by exact Nat.zero_le _)
    (hrf : ∀ F, rfind Γ.rf F = true → FdIter Try.prog F ∧ ∀ args w, (callFunc F args).run Try.prog w = .ok (.enter F args) w := by exact fun F h => absurd h (show ¬ (false = true) from Bool.false_ne_true)) : ACalls Try.prog 6 args h K :=
  acalls_of_run (tiOf_ok _) hsp follows Try.func6 b6 (rs := Try.f6.results.toList) (Array.toArray_toList).symm (by kernel_rfl) (by kernel_rfl) c6_ok (by kernel_rfl) hl hk0 htn hrf hkn hrun
theorem in6 : ∀ args w, (callFunc 6 args).run Try.prog w = .ok (.enter 6 args) w := callFunc_enter Try.func6 (by kernel_rfl) (by kernel_rfl)

/-- sentinel/sentinellaw5.WireRecords -/
def N7 : Nat := 146
def mu7 : List Nat := []
def keep7 : List Nat := [0, 1, 2, 3, 4, 5, 6, 14, 15, 16, 17, 18, 19, 20, 21, 22, 23, 24, 25, 26, 27, 28, 30, 43, 85, 118, 145]
def res7 : List RV := [(.t 14)]
def c7 : CC :=
 (.seq (.reg [⟨(some 14), (.mov (.c (.bool false))), none, 2⟩]
 [])
 (.seq (.seq (.reg [⟨(some 29), (.call (.c (.fn 15 [])) []), none, 2⟩, ⟨(some 30), (.un .not (.t 29)), none, 2⟩]
 [])
 (.cond (.t 30)
 (.seq (.reg [⟨(some 14), (.mov (.c (.bool false))), none, 2⟩]
 [])
 .ret)
 .skip))
 (.seq (.seq (.reg [⟨(some 31), (.mov (.t 1)), none, 2⟩, ⟨(some 32), (.len true (.t 31)), none, 2⟩, ⟨(some 33), (.bin .gtr (.t 32) (.c (.int 40))), none, 2⟩, ⟨(some 34), (.mov (.t 33)), none, 2⟩, ⟨(some 35), (.mov (.t 2)), (some (34, false)), 2⟩, ⟨(some 36), (.len false (.t 35)), (some (34, false)), 2⟩, ⟨(some 37), (.bin .gtr (.t 36) (.c (.int 100))), (some (34, false)), 2⟩, ⟨(some 38), (.pick (.t 34) (.c (.bool true)) (.t 37)), none, 2⟩, ⟨(some 39), (.mov (.t 38)), none, 2⟩, ⟨(some 40), (.mov (.t 6)), (some (39, false)), 2⟩, ⟨(some 41), (.len false (.t 40)), (some (39, false)), 2⟩, ⟨(some 42), (.bin .gtr (.t 41) (.c (.int 200))), (some (39, false)), 2⟩, ⟨(some 43), (.pick (.t 39) (.c (.bool true)) (.t 42)), none, 2⟩]
 [])
 (.cond (.t 43)
 (.seq (.reg [⟨(some 14), (.mov (.c (.bool true))), none, 2⟩]
 [])
 .ret)
 .skip))
 (.seq (.reg [⟨(some 44), (.mov (.t 0)), none, 2⟩, ⟨(some 45), (.mov (.t 1)), none, 2⟩, ⟨(some 46), (.mov (.t 2)), none, 2⟩, ⟨(some 47), (.call (.c (.fn 34 [])) [(.t 44), (.t 45), (.t 46)]), none, 2⟩, ⟨(some 15), (.alloc (.agg [(.int 0), (.str []), (.sl true 0 0 (.agg []) true), (.u32 0), (.u32 0), (.u32 0), (.u32 0), (.u32 0), (.u32 0), (.u32 0), (.u32 0), (.u32 0), (.u32 0), (.u32 0), (.u32 0), (.u32 0), (.u32 0), (.u32 0), (.u32 0), (.sl true 0 0 (.agg []) true), (.int 0), (.int 0), (.int 0)])), none, 2⟩, ⟨none, (.store (some 23) (.t 15) (.t 47)), none, 2⟩]
 [])
 (.seq (.reg [⟨(some 49), (.load (some 23) (.t 15)), none, 2⟩, ⟨(some 50), (.call (.c (.fn 35 [])) [(.t 49)]), none, 2⟩, ⟨(some 48), (.mov (.t 50)), none, 2⟩, ⟨(some 51), (.ext (.t 48) 0), none, 2⟩, ⟨(some 52), (.ext (.t 48) 1), none, 2⟩, ⟨(some 16), (.mov (.t 51)), none, 2⟩, ⟨(some 17), (.mov (.t 52)), none, 2⟩]
 [])
 (.seq (.reg [⟨(some 54), (.load (some 23) (.t 15)), none, 2⟩, ⟨(some 55), (.call (.c (.fn 36 [])) [(.t 54)]), none, 2⟩, ⟨(some 53), (.mov (.t 55)), none, 2⟩, ⟨(some 56), (.ext (.t 53) 0), none, 2⟩, ⟨(some 57), (.ext (.t 53) 1), none, 2⟩, ⟨(some 18), (.mov (.t 56)), none, 2⟩, ⟨(some 19), (.mov (.t 57)), none, 2⟩]
 [])
 (.seq (.reg [⟨(some 59), (.mov (.t 16)), none, 2⟩, ⟨(some 60), (.call (.c (.fn 37 [])) [(.t 59)]), none, 2⟩, ⟨(some 58), (.mov (.t 60)), none, 2⟩, ⟨(some 61), (.ext (.t 58) 0), none, 2⟩, ⟨(some 62), (.ext (.t 58) 1), none, 2⟩, ⟨(some 20), (.alloc (.agg [(.int 0), (.str []), (.sl true 0 0 (.agg []) true), (.u32 0), (.u32 0), (.u32 0), (.u32 0), (.u32 0), (.u32 0), (.u32 0), (.u32 0), (.u32 0), (.u32 0), (.u32 0), (.u32 0), (.u32 0), (.u32 0), (.u32 0), (.u32 0), (.sl true 0 0 (.agg []) true), (.int 0), (.int 0), (.int 0)])), none, 2⟩, ⟨none, (.store (some 23) (.t 20) (.t 61)), none, 2⟩, ⟨(some 21), (.mov (.t 62)), none, 2⟩]
 [])
 (.seq (.seq (.reg [⟨(some 63), (.mov (.t 17)), none, 2⟩, ⟨(some 64), (.un .not (.t 63)), none, 2⟩, ⟨(some 65), (.mov (.t 64)), none, 2⟩, ⟨(some 66), (.mov (.t 19)), (some (65, false)), 2⟩, ⟨(some 67), (.un .not (.t 66)), (some (65, false)), 2⟩, ⟨(some 68), (.pick (.t 65) (.c (.bool true)) (.t 67)), none, 2⟩, ⟨(some 69), (.mov (.t 68)), none, 2⟩, ⟨(some 70), (.mov (.t 16)), (some (69, false)), 2⟩, ⟨(some 71), (.conv .bstr (.t 70)), (some (69, false)), 2⟩, ⟨(some 72), (.mov (.t 18)), (some (69, false)), 2⟩, ⟨(some 73), (.conv .bstr (.t 72)), (some (69, false)), 2⟩, ⟨(some 74), (.eq true .sc (.t 71) (.t 73)), (some (69, false)), 2⟩, ⟨(some 75), (.pick (.t 69) (.c (.bool true)) (.t 74)), none, 2⟩, ⟨(some 76), (.mov (.t 75)), none, 2⟩, ⟨(some 77), (.mov (.t 21)), (some (76, false)), 2⟩, ⟨(some 78), (.un .not (.t 77)), (some (76, false)), 2⟩, ⟨(some 79), (.pick (.t 76) (.c (.bool true)) (.t 78)), none, 2⟩, ⟨(some 80), (.mov (.t 79)), none, 2⟩, ⟨(some 81), (.load (some 23) (.t 15)), (some (80, false)), 2⟩, ⟨(some 82), (.load (some 23) (.t 20)), (some (80, false)), 2⟩, ⟨(some 83), (.call (.c (.fn 38 [])) [(.t 81), (.t 82)]), (some (80, false)), 2⟩, ⟨(some 84), (.un .not (.t 83)), (some (80, false)), 2⟩, ⟨(some 85), (.pick (.t 80) (.c (.bool true)) (.t 84)), none, 2⟩]
 [])
 (.cond (.t 85)
 (.seq (.reg [⟨(some 14), (.mov (.c (.bool false))), none, 2⟩]
 [])
 .ret)
 .skip))
 (.seq (.reg [⟨(some 86), (.bsl false .u8 1 0 [(.u8 0)] []), none, 2⟩, ⟨(some 87), (.mov (.t 18)), none, 2⟩, ⟨(some 88), (.app true 1 1 (.t 86) (.t 87)), none, 2⟩, ⟨(some 22), (.mov (.t 88)), none, 2⟩]
 [])
 (.seq (.reg [⟨(some 89), (.mov (.t 22)), none, 2⟩, ⟨(some 90), (.mov (.t 3)), none, 2⟩, ⟨(some 91), (.mov (.t 22)), none, 2⟩, ⟨(some 92), (.len false (.t 91)), none, 2⟩, ⟨(some 93), (.call (.c (.fn 22 [])) [(.t 90), (.t 92)]), none, 2⟩, ⟨(some 94), (.iadS 1 (.t 89) (.t 93)), none, 2⟩, ⟨(some 95), (.load none (.t 94)), none, 2⟩, ⟨(some 96), (.mov (.t 4)), none, 2⟩, ⟨(some 97), (.bin .add (.t 95) (.t 96)), none, 2⟩, ⟨(some 98), (.iadS 1 (.t 89) (.t 93)), none, 2⟩, ⟨none, (.store none (.t 98) (.t 97)), none, 2⟩]
 [])
 (.seq (.reg [⟨(some 99), (.mov (.t 22)), none, 0⟩, ⟨(some 100), (.mov (.t 18)), none, 0⟩, ⟨(some 101), (.mov (.t 5)), none, 0⟩, ⟨(some 102), (.mov (.t 18)), none, 0⟩, ⟨(some 103), (.len false (.t 102)), none, 0⟩, ⟨(some 104), (.bin .add (.t 103) (.c (.int 1))), none, 0⟩, ⟨(some 105), (.call (.c (.fn 22 [])) [(.t 101), (.t 104)]), none, 0⟩, ⟨(some 106), (.slcS 1 (.t 100) none (some (.t 105)) none), none, 0⟩, ⟨(some 107), (.mov (.t 6)), none, 0⟩, ⟨(some 108), (.bsl false .u8 1 0 [(.u8 0)] []), none, 0⟩, ⟨(some 109), (.mov (.t 18)), none, 0⟩, ⟨(some 110), (.app true 1 1 (.t 108) (.t 109)), none, 2⟩, ⟨(some 111), (.mov (.t 4)), none, 0⟩, ⟨(some 112), (.bsl false .u8 1 1 [(.u8 0)] [(0, (1, (.t 111)))]), none, 0⟩, ⟨(some 113), (.app true 1 1 (.t 110) (.t 112)), none, 2⟩, ⟨(some 114), (.bsl false .other 1 4 [(.sl true 0 0 (.agg []) true)] [(0, (1, (.t 99))), (1, (1, (.t 106))), (2, (1, (.t 107))), (3, (1, (.t 113)))]), none, 0⟩, ⟨(some 23), (.mov (.t 114)), none, 0⟩]
 [])
 (.seq (.seq (.reg [⟨(some 24), (.mov (.c (.int 0))), none, 2⟩]
 [])
 (.block 0 (.loop (.seq (.seq (.reg [⟨(some 115), (.mov (.t 24)), none, 2⟩, ⟨(some 116), (.mov (.t 23)), none, 2⟩, ⟨(some 117), (.len false (.t 116)), none, 2⟩, ⟨(some 118), (.bin .lss (.t 115) (.t 117)), none, 2⟩]
 [])
 (.cond (.t 118)
 .skip
 (.exit 0)))
 (.seq (.block 1 (.seq (.reg [⟨(some 122), (.mov (.t 23)), none, 2⟩, ⟨(some 123), (.mov (.t 24)), none, 2⟩, ⟨(some 124), (.iadS 1 (.t 122) (.t 123)), none, 2⟩, ⟨(some 125), (.load none (.t 124)), none, 2⟩, ⟨(some 126), (.call (.c (.fn 37 [])) [(.t 125)]), none, 2⟩, ⟨(some 121), (.mov (.t 126)), none, 2⟩, ⟨(some 127), (.ext (.t 121) 0), none, 2⟩, ⟨(some 128), (.ext (.t 121) 1), none, 2⟩, ⟨(some 25), (.alloc (.agg [(.int 0), (.str []), (.sl true 0 0 (.agg []) true), (.u32 0), (.u32 0), (.u32 0), (.u32 0), (.u32 0), (.u32 0), (.u32 0), (.u32 0), (.u32 0), (.u32 0), (.u32 0), (.u32 0), (.u32 0), (.u32 0), (.u32 0), (.u32 0), (.sl true 0 0 (.agg []) true), (.int 0), (.int 0), (.int 0)])), none, 2⟩, ⟨none, (.store (some 23) (.t 25) (.t 127)), none, 2⟩, ⟨(some 26), (.mov (.t 128)), none, 2⟩]
 [])
 (.seq (.reg [⟨(some 130), (.mov (.t 23)), none, 2⟩, ⟨(some 131), (.mov (.t 24)), none, 2⟩, ⟨(some 132), (.iadS 1 (.t 130) (.t 131)), none, 2⟩, ⟨(some 133), (.load none (.t 132)), none, 2⟩, ⟨(some 134), (.call (.c (.fn 39 [])) [(.t 133)]), none, 2⟩, ⟨(some 129), (.mov (.t 134)), none, 2⟩, ⟨(some 135), (.ext (.t 129) 0), none, 2⟩, ⟨(some 136), (.ext (.t 129) 1), none, 2⟩, ⟨(some 27), (.alloc (.agg [(.int 0), (.str []), (.sl true 0 0 (.agg []) true), (.u32 0), (.u32 0), (.u32 0), (.u32 0), (.u32 0), (.u32 0), (.u32 0), (.u32 0), (.u32 0), (.u32 0), (.u32 0), (.u32 0), (.u32 0), (.u32 0), (.u32 0), (.u32 0), (.sl true 0 0 (.agg []) true), (.int 0), (.int 0), (.int 0)])), none, 2⟩, ⟨none, (.store (some 23) (.t 27) (.t 135)), none, 2⟩, ⟨(some 28), (.mov (.t 136)), none, 2⟩]
 [])
 (.seq (.reg [⟨(some 137), (.mov (.t 26)), none, 2⟩, ⟨(some 138), (.mov (.t 28)), none, 2⟩, ⟨(some 139), (.eq true .bool (.t 137) (.t 138)), none, 2⟩, ⟨(some 140), (.mov (.t 139)), none, 2⟩, ⟨(some 141), (.load (some 23) (.t 25)), (some (140, false)), 2⟩, ⟨(some 142), (.load (some 23) (.t 27)), (some (140, false)), 2⟩, ⟨(some 143), (.call (.c (.fn 38 [])) [(.t 141), (.t 142)]), (some (140, false)), 2⟩, ⟨(some 144), (.un .not (.t 143)), (some (140, false)), 2⟩, ⟨(some 145), (.pick (.t 140) (.c (.bool true)) (.t 144)), none, 2⟩]
 [])
 (.cond (.t 145)
 (.seq (.reg [⟨(some 14), (.mov (.c (.bool false))), none, 2⟩]
 [])
 .ret)
 .skip)))))
 (.reg [⟨(some 119), (.mov (.t 24)), none, 2⟩, ⟨(some 120), (.bin .add (.t 119) (.c (.int 1))), none, 2⟩, ⟨(some 24), (.mov (.t 120)), none, 2⟩]
 []))))))
 (.seq (.reg [⟨(some 14), (.mov (.c (.bool true))), none, 2⟩]
 [])
 .ret)))))))))))))
theorem c7_ok : comp (tiOf Try.prog) mu7 [19, 21, 22, 25, 34, 38, 41, 42, 43, 46, 50, 56, 57, 58, 59, 62, 63, 65, 66, 71, 72, 73, 74, 75, 76] N7 (Try.f7.body.getD .skip) = c7 := by kernel_rfl
theorem b7 : Try.f7.body = some (Try.f7.body.getD .skip) := by kernel_rfl
theorem run7 {Γ : G} (hsp : SpOK Try.prog Γ.sp) {args : List AV} {h : List AO} {own : Bool} {kn : Nat} {K : AV → List AO → Prop} (hl : args.length ≤ N7) (hk0 : Γ.k0 = hlen h) (hkn : hlen h ≤ kn)
    (hrun : run Γ c7 (leafK Γ.sp res7 own kn K) [] (leafK Γ.sp res7 own kn K) (argS 0 args) h) (htn : Γ.tn ≤ N7 := by exact Nat.zero_le _)
    (hrf : ∀ F, rfind Γ.rf F = true → FdIter Try.prog F ∧ ∀ args w, (callFunc F args).run Try.prog w = .ok (.enter F args) w := by exact fun F h => absurd h (show ¬ (false = true) from Bool.false_ne_true)) : ACalls Try.prog 7 args h K :=
  acalls_of_run (tiOf_ok _) hsp follows Try.func7 b7 (rs := Try.f7.results.toList) (Array.toArray_toList).symm (by kernel_rfl) (by kernel_rfl) c7_ok (by kernel_rfl) hl hk0 htn hrf hkn hrun
theorem in7 : ∀ args w, (callFunc 7 args).run Try.prog w = .ok (.enter 7 args) w := callFunc_enter Try.func7 (by kernel_rfl) (by kernel_rfl)

/-- sentinel/sentinellaw5.WireRecordRight -/
def N8 : Nat := 145
def mu8 : List Nat := []
def keep8 : List Nat := [0, 1, 2, 3, 4, 5, 12, 13, 14, 15, 16, 17, 19, 32, 38, 39, 48, 52, 58, 64, 81, 98, 107, 116]
def res8 : List RV := [(.t 12)]
def c8 : CC :=
 (.seq (.reg [⟨(some 12), (.mov (.c (.bool false))), none, 2⟩]
 [])
 (.seq (.seq (.reg [⟨(some 18), (.call (.c (.fn 15 [])) []), none, 2⟩, ⟨(some 19), (.un .not (.t 18)), none, 2⟩]
 [])
 (.cond (.t 19)
 (.seq (.reg [⟨(some 12), (.mov (.c (.bool false))), none, 2⟩]
 [])
 .ret)
 .skip))
 (.seq (.seq (.reg [⟨(some 20), (.mov (.t 1)), none, 2⟩, ⟨(some 21), (.len true (.t 20)), none, 2⟩, ⟨(some 22), (.bin .gtr (.t 21) (.c (.int 40))), none, 2⟩, ⟨(some 23), (.mov (.t 22)), none, 2⟩, ⟨(some 24), (.mov (.t 2)), (some (23, false)), 2⟩, ⟨(some 25), (.len false (.t 24)), (some (23, false)), 2⟩, ⟨(some 26), (.bin .gtr (.t 25) (.c (.int 100))), (some (23, false)), 2⟩, ⟨(some 27), (.pick (.t 23) (.c (.bool true)) (.t 26)), none, 2⟩, ⟨(some 28), (.mov (.t 27)), none, 2⟩, ⟨(some 29), (.mov (.t 5)), (some (28, false)), 2⟩, ⟨(some 30), (.len true (.t 29)), (some (28, false)), 2⟩, ⟨(some 31), (.bin .gtr (.t 30) (.c (.int 40))), (some (28, false)), 2⟩, ⟨(some 32), (.pick (.t 28) (.c (.bool true)) (.t 31)), none, 2⟩]
 [])
 (.cond (.t 32)
 (.seq (.reg [⟨(some 12), (.mov (.c (.bool true))), none, 2⟩]
 [])
 .ret)
 .skip))
 (.seq (.reg [⟨(some 33), (.mov (.t 0)), none, 2⟩, ⟨(some 34), (.mov (.t 1)), none, 2⟩, ⟨(some 35), (.mov (.t 2)), none, 2⟩, ⟨(some 36), (.call (.c (.fn 34 [])) [(.t 33), (.t 34), (.t 35)]), none, 2⟩, ⟨(some 13), (.alloc (.agg [(.int 0), (.str []), (.sl true 0 0 (.agg []) true), (.u32 0), (.u32 0), (.u32 0), (.u32 0), (.u32 0), (.u32 0), (.u32 0), (.u32 0), (.u32 0), (.u32 0), (.u32 0), (.u32 0), (.u32 0), (.u32 0), (.u32 0), (.u32 0), (.sl true 0 0 (.agg []) true), (.int 0), (.int 0), (.int 0)])), none, 2⟩, ⟨none, (.store (some 23) (.t 13) (.t 36)), none, 2⟩]
 [])
 (.seq (.seq (.reg [⟨(some 37), (.mov (.t 3)), none, 2⟩, ⟨(some 38), (.call (.c (.fn 22 [])) [(.t 37), (.c (.int 9))]), none, 2⟩]
 [])
 (.block 0 (.seq (.reg [⟨(some 40), (.eq false .sc (.t 38) (.c (.int 0))), none, 2⟩, ⟨(some 39), (.mov (.t 40)), none, 2⟩]
 [])
 (.cond (.t 39)
 (.reg [⟨(some 41), (.mov (.t 4)), none, 2⟩, ⟨(some 42), (.bsl false .int 1 6 [(.int 0)] [(0, (1, (.c (.int (-1))))), (1, (1, (.c (.int 0)))), (2, (1, (.c (.int 1)))), (3, (1, (.c (.int 2)))), (4, (1, (.c (.int 3)))), (5, (1, (.t 41)))]), none, 2⟩, ⟨(some 43), (.mov (.t 4)), none, 2⟩, ⟨(some 44), (.call (.c (.fn 22 [])) [(.t 43), (.c (.int 6))]), none, 2⟩, ⟨(some 45), (.iadS 1 (.t 42) (.t 44)), none, 2⟩, ⟨(some 46), (.load none (.t 45)), none, 2⟩, ⟨(some 47), (.fad 0 (.t 13)), none, 2⟩, ⟨none, (.store none (.t 47) (.t 46)), none, 2⟩]
 [])
 (.seq (.reg [⟨(some 49), (.eq false .sc (.t 38) (.c (.int 1))), none, 2⟩, ⟨(some 48), (.mov (.t 49)), none, 2⟩]
 [])
 (.cond (.t 48)
 (.reg [⟨(some 50), (.mov (.t 5)), none, 2⟩, ⟨(some 51), (.fad 1 (.t 13)), none, 2⟩, ⟨none, (.store none (.t 51) (.t 50)), none, 2⟩]
 [])
 (.seq (.reg [⟨(some 53), (.eq false .sc (.t 38) (.c (.int 2))), none, 2⟩, ⟨(some 52), (.mov (.t 53)), none, 2⟩]
 [])
 (.cond (.t 52)
 (.reg [⟨(some 54), (.mov (.t 4)), none, 2⟩, ⟨(some 55), (.call (.c (.fn 22 [])) [(.t 54), (.c (.int 19))]), none, 2⟩, ⟨(some 56), (.mksl .u8 1 1 [(.u8 0)] (.t 55) (.t 55)), none, 2⟩, ⟨(some 57), (.fad 2 (.t 13)), none, 2⟩, ⟨none, (.store none (.t 57) (.t 56)), none, 2⟩]
 [])
 (.seq (.reg [⟨(some 59), (.eq false .sc (.t 38) (.c (.int 3))), none, 2⟩, ⟨(some 58), (.mov (.t 59)), none, 2⟩]
 [])
 (.cond (.t 58)
 (.reg [⟨(some 60), (.mov (.t 4)), none, 2⟩, ⟨(some 61), (.call (.c (.fn 22 [])) [(.t 60), (.c (.int 52))]), none, 2⟩, ⟨(some 62), (.mksl .u8 1 1 [(.u8 0)] (.t 61) (.t 61)), none, 2⟩, ⟨(some 63), (.fad 19 (.t 13)), none, 2⟩, ⟨none, (.store none (.t 63) (.t 62)), none, 2⟩]
 [])
 (.seq (.reg [⟨(some 65), (.eq false .sc (.t 38) (.c (.int 4))), none, 2⟩, ⟨(some 64), (.mov (.t 65)), none, 2⟩]
 [])
 (.cond (.t 64)
 (.reg [⟨(some 66), (.build [(.u32 0), (.u32 0), (.u32 0), (.u32 0), (.u32 0), (.u32 0), (.u32 0), (.u32 0)] []), none, 2⟩, ⟨(some 67), (.call (.c (.fn 24 [])) [(.c (.int 4294967295))]), none, 2⟩, ⟨(some 68), (.call (.c (.fn 24 [])) [(.c (.int 4294967296))]), none, 2⟩, ⟨(some 69), (.mov (.t 4)), none, 2⟩, ⟨(some 70), (.mov (.t 4)), none, 2⟩, ⟨(some 71), (.mov (.t 4)), none, 2⟩, ⟨(some 72), (.mov (.t 4)), none, 2⟩, ⟨(some 73), (.bsl false .int 1 3 [(.int 0)] [(0, (1, (.t 70))), (1, (1, (.t 71))), (2, (1, (.t 72)))]), none, 2⟩, ⟨(some 74), (.call (.c (.fn 40 [])) [(.t 69), (.t 73)]), none, 2⟩, ⟨(some 75), (.bsl false .other 8 4 [(.u32 0), (.u32 0), (.u32 0), (.u32 0), (.u32 0), (.u32 0), (.u32 0), (.u32 0)] [(0, (8, (.t 66))), (8, (8, (.t 67))), (16, (8, (.t 68))), (24, (8, (.t 74)))]), none, 2⟩, ⟨(some 76), (.mov (.t 4)), none, 2⟩, ⟨(some 77), (.call (.c (.fn 22 [])) [(.t 76), (.c (.int 4))]), none, 2⟩, ⟨(some 78), (.iadS 8 (.t 75) (.t 77)), none, 2⟩, ⟨(some 79), (.load (some 8) (.t 78)), none, 2⟩, ⟨(some 80), (.fad 3 (.t 13)), none, 2⟩, ⟨none, (.store (some 8) (.t 80) (.t 79)), none, 2⟩]
 [])
 (.seq (.reg [⟨(some 82), (.eq false .sc (.t 38) (.c (.int 5))), none, 2⟩, ⟨(some 81), (.mov (.t 82)), none, 2⟩]
 [])
 (.cond (.t 81)
 (.reg [⟨(some 83), (.build [(.u32 0), (.u32 0), (.u32 0), (.u32 0), (.u32 0), (.u32 0), (.u32 0), (.u32 0)] []), none, 2⟩, ⟨(some 84), (.call (.c (.fn 24 [])) [(.c (.int 4294967295))]), none, 2⟩, ⟨(some 85), (.call (.c (.fn 24 [])) [(.c (.int 4294967296))]), none, 2⟩, ⟨(some 86), (.mov (.t 4)), none, 2⟩, ⟨(some 87), (.mov (.t 4)), none, 2⟩, ⟨(some 88), (.mov (.t 4)), none, 2⟩, ⟨(some 89), (.mov (.t 4)), none, 2⟩, ⟨(some 90), (.bsl false .int 1 3 [(.int 0)] [(0, (1, (.t 87))), (1, (1, (.t 88))), (2, (1, (.t 89)))]), none, 2⟩, ⟨(some 91), (.call (.c (.fn 40 [])) [(.t 86), (.t 90)]), none, 2⟩, ⟨(some 92), (.bsl false .other 8 4 [(.u32 0), (.u32 0), (.u32 0), (.u32 0), (.u32 0), (.u32 0), (.u32 0), (.u32 0)] [(0, (8, (.t 83))), (8, (8, (.t 84))), (16, (8, (.t 85))), (24, (8, (.t 91)))]), none, 2⟩, ⟨(some 93), (.mov (.t 4)), none, 2⟩, ⟨(some 94), (.call (.c (.fn 22 [])) [(.t 93), (.c (.int 4))]), none, 2⟩, ⟨(some 95), (.iadS 8 (.t 92) (.t 94)), none, 2⟩, ⟨(some 96), (.load (some 8) (.t 95)), none, 2⟩, ⟨(some 97), (.fad 11 (.t 13)), none, 2⟩, ⟨none, (.store (some 8) (.t 97) (.t 96)), none, 2⟩]
 [])
 (.seq (.reg [⟨(some 99), (.eq false .sc (.t 38) (.c (.int 6))), none, 2⟩, ⟨(some 98), (.mov (.t 99)), none, 2⟩]
 [])
 (.cond (.t 98)
 (.reg [⟨(some 100), (.mov (.t 4)), none, 2⟩, ⟨(some 101), (.bsl false .int 1 5 [(.int 0)] [(0, (1, (.c (.int (-1))))), (1, (1, (.c (.int 0)))), (2, (1, (.c (.int 255)))), (3, (1, (.c (.int 256)))), (4, (1, (.t 100)))]), none, 2⟩, ⟨(some 102), (.mov (.t 4)), none, 2⟩, ⟨(some 103), (.call (.c (.fn 22 [])) [(.t 102), (.c (.int 5))]), none, 2⟩, ⟨(some 104), (.iadS 1 (.t 101) (.t 103)), none, 2⟩, ⟨(some 105), (.load none (.t 104)), none, 2⟩, ⟨(some 106), (.fad 20 (.t 13)), none, 2⟩, ⟨none, (.store none (.t 106) (.t 105)), none, 2⟩]
 [])
 (.seq (.reg [⟨(some 108), (.eq false .sc (.t 38) (.c (.int 7))), none, 2⟩, ⟨(some 107), (.mov (.t 108)), none, 2⟩]
 [])
 (.cond (.t 107)
 (.reg [⟨(some 109), (.mov (.t 4)), none, 2⟩, ⟨(some 110), (.bsl false .int 1 4 [(.int 0)] [(0, (1, (.c (.int (-1))))), (1, (1, (.c (.int 0)))), (2, (1, (.c (.int 9223372036854775807)))), (3, (1, (.t 109)))]), none, 2⟩, ⟨(some 111), (.mov (.t 4)), none, 2⟩, ⟨(some 112), (.call (.c (.fn 22 [])) [(.t 111), (.c (.int 4))]), none, 2⟩, ⟨(some 113), (.iadS 1 (.t 110) (.t 112)), none, 2⟩, ⟨(some 114), (.load none (.t 113)), none, 2⟩, ⟨(some 115), (.fad 21 (.t 13)), none, 2⟩, ⟨none, (.store none (.t 115) (.t 114)), none, 2⟩]
 [])
 (.seq (.reg [⟨(some 117), (.eq false .sc (.t 38) (.c (.int 8))), none, 2⟩, ⟨(some 116), (.mov (.t 117)), none, 2⟩]
 [])
 (.cond (.t 116)
 (.reg [⟨(some 118), (.mov (.t 4)), none, 2⟩, ⟨(some 119), (.bsl false .int 1 4 [(.int 0)] [(0, (1, (.c (.int (-1))))), (1, (1, (.c (.int 0)))), (2, (1, (.c (.int 9223372036854775807)))), (3, (1, (.t 118)))]), none, 2⟩, ⟨(some 120), (.mov (.t 4)), none, 2⟩, ⟨(some 121), (.call (.c (.fn 22 [])) [(.t 120), (.c (.int 4))]), none, 2⟩, ⟨(some 122), (.iadS 1 (.t 119) (.t 121)), none, 2⟩, ⟨(some 123), (.load none (.t 122)), none, 2⟩, ⟨(some 124), (.fad 22 (.t 13)), none, 2⟩, ⟨none, (.store none (.t 124) (.t 123)), none, 2⟩]
 [])
 .skip))))))))))))))))))))
 (.seq (.reg [⟨(some 126), (.load (some 23) (.t 13)), none, 2⟩, ⟨(some 127), (.call (.c (.fn 35 [])) [(.t 126)]), none, 2⟩, ⟨(some 125), (.mov (.t 127)), none, 2⟩, ⟨(some 128), (.ext (.t 125) 0), none, 2⟩, ⟨(some 129), (.ext (.t 125) 1), none, 2⟩, ⟨(some 14), (.mov (.t 128)), none, 2⟩, ⟨(some 15), (.mov (.t 129)), none, 2⟩]
 [])
 (.seq (.reg [⟨(some 131), (.load (some 23) (.t 13)), none, 2⟩, ⟨(some 132), (.call (.c (.fn 36 [])) [(.t 131)]), none, 2⟩, ⟨(some 130), (.mov (.t 132)), none, 2⟩, ⟨(some 133), (.ext (.t 130) 0), none, 2⟩, ⟨(some 134), (.ext (.t 130) 1), none, 2⟩, ⟨(some 16), (.mov (.t 133)), none, 2⟩, ⟨(some 17), (.mov (.t 134)), none, 2⟩]
 [])
 (.seq (.reg [⟨(some 135), (.mov (.t 15)), none, 2⟩, ⟨(some 136), (.mov (.t 17)), none, 2⟩, ⟨(some 137), (.eq false .bool (.t 135) (.t 136)), none, 2⟩, ⟨(some 138), (.mov (.t 137)), none, 2⟩, ⟨(some 139), (.mov (.t 14)), (some (138, true)), 2⟩, ⟨(some 140), (.conv .bstr (.t 139)), (some (138, true)), 2⟩, ⟨(some 141), (.mov (.t 16)), (some (138, true)), 2⟩, ⟨(some 142), (.conv .bstr (.t 141)), (some (138, true)), 2⟩, ⟨(some 143), (.eq false .sc (.t 140) (.t 142)), (some (138, true)), 2⟩, ⟨(some 144), (.pick (.t 138) (.t 143) (.c (.bool false))), none, 2⟩, ⟨(some 12), (.mov (.t 144)), none, 2⟩]
 [])
 .ret))))))))
theorem c8_ok : comp (tiOf Try.prog) mu8 [19, 21, 22, 25, 34, 38, 41, 42, 43, 46, 50, 56, 57, 58, 59, 62, 63, 65, 66, 71, 72, 73, 74, 75, 76] N8 (Try.f8.body.getD .skip) = c8 := by kernel_rfl
theorem b8 : Try.f8.body = some (Try.f8.body.getD .skip) := by kernel_rfl
theorem run8 {Γ : G} (hsp : SpOK Try.prog Γ.sp) {args : List AV} {h : List AO} {own : Bool} {kn : Nat} {K : AV → List AO → Prop} (hl : args.length ≤ N8) (hk0 : Γ.k0 = hlen h) (hkn : hlen h ≤ kn)
    (hrun : run Γ c8 (leafK Γ.sp res8 own kn K) [] (leafK Γ.sp res8 own kn K) (argS 0 args) h) (htn : Γ.tn ≤ N8 := by exact Nat.zero_le _)
    (hrf : ∀ F, rfind Γ.rf F = true → FdIter Try.prog F ∧ ∀ args w, (callFunc F args).run Try.prog w = .ok (.enter F args) w := by exact fun F h => absurd h (show ¬ (false = true) from Bool.false_ne_true)) : ACalls Try.prog 8 args h K :=
  acalls_of_run (tiOf_ok _) hsp follows Try.func8 b8 (rs := Try.f8.results.toList) (Array.toArray_toList).symm (by kernel_rfl) (by kernel_rfl) c8_ok (by kernel_rfl) hl hk0 htn hrf hkn hrun
theorem in8 : ∀ args w, (callFunc 8 args).run Try.prog w = .ok (.enter 8 args) w := callFunc_enter Try.func8 (by kernel_rfl) (by kernel_rfl)

/-- sentinel/sentinellaw5.WireSizes -/
def N9 : Nat := 139
def mu9 : List Nat := []
def keep9 : List Nat := [0, 1, 2, 3, 8, 9, 10, 11, 12, 13, 15, 23, 35, 72, 76, 120]
def res9 : List RV := [(.t 8)]
def c9 : CC :=
 (.seq (.reg [⟨(some 8), (.mov (.c (.bool false))), none, 2⟩]
 [])
 (.seq (.seq (.reg [⟨(some 14), (.call (.c (.fn 15 [])) []), none, 2⟩, ⟨(some 15), (.un .not (.t 14)), none, 2⟩]
 [])
 (.cond (.t 15)
 (.seq (.reg [⟨(some 8), (.mov (.c (.bool false))), none, 2⟩]
 [])
 .ret)
 .skip))
 (.seq (.seq (.reg [⟨(some 16), (.mov (.t 2)), none, 2⟩, ⟨(some 17), (.len true (.t 16)), none, 2⟩, ⟨(some 18), (.bin .gtr (.t 17) (.c (.int 40))), none, 2⟩, ⟨(some 19), (.mov (.t 18)), none, 2⟩, ⟨(some 20), (.mov (.t 3)), (some (19, false)), 2⟩, ⟨(some 21), (.len false (.t 20)), (some (19, false)), 2⟩, ⟨(some 22), (.bin .gtr (.t 21) (.c (.int 130))), (some (19, false)), 2⟩, ⟨(some 23), (.pick (.t 19) (.c (.bool true)) (.t 22)), none, 2⟩]
 [])
 (.cond (.t 23)
 (.seq (.reg [⟨(some 8), (.mov (.c (.bool true))), none, 2⟩]
 [])
 .ret)
 .skip))
 (.seq (.reg [⟨(some 24), (.mov (.t 0)), none, 2⟩, ⟨(some 25), (.mov (.t 1)), none, 2⟩, ⟨(some 26), (.mov (.t 2)), none, 2⟩, ⟨(some 27), (.mov (.t 3)), none, 2⟩, ⟨(some 28), (.call (.c (.fn 16 [])) [(.t 24), (.t 25), (.t 26), (.t 27)]), none, 2⟩, ⟨(some 9), (.alloc (.agg [(.int 0), (.int 0), (.int 0), (.int 0), (.str []), (.u32 0), (.u32 0), (.u32 0), (.u32 0), (.u32 0), (.u32 0), (.u32 0), (.u32 0), (.u32 0), (.u32 0), (.u32 0), (.u32 0), (.u32 0), (.u32 0), (.u32 0), (.u32 0), (.sl true 0 0 (.agg []) true), (.sl true 0 0 (.agg []) true), (.sl true 0 0 (.agg []) true), (.sl true 0 0 (.agg []) true), (.sl true 0 0 (.agg []) true)])), none, 2⟩, ⟨none, (.store (some 26) (.t 9) (.t 28)), none, 2⟩]
 [])
 (.seq (.reg [⟨(some 30), (.load (some 26) (.t 9)), none, 2⟩, ⟨(some 31), (.call (.c (.fn 17 [])) [(.t 30)]), none, 2⟩, ⟨(some 29), (.mov (.t 31)), none, 2⟩, ⟨(some 32), (.ext (.t 29) 0), none, 2⟩, ⟨(some 33), (.ext (.t 29) 1), none, 2⟩, ⟨(some 10), (.mov (.t 32)), none, 2⟩, ⟨(some 11), (.mov (.t 33)), none, 2⟩]
 [])
 (.seq (.seq (.reg [⟨(some 34), (.mov (.t 11)), none, 2⟩, ⟨(some 35), (.un .not (.t 34)), none, 2⟩]
 [])
 (.cond (.t 35)
 (.seq (.reg [⟨(some 36), (.mov (.t 10)), none, 2⟩, ⟨(some 37), (.len false (.t 36)), none, 2⟩, ⟨(some 38), (.eq false .sc (.t 37) (.c (.int 0))), none, 2⟩, ⟨(some 8), (.mov (.t 38)), none, 2⟩]
 [])
 .ret)
 .skip))
 (.seq (.seq (.reg [⟨(some 39), (.mov (.t 10)), none, 0⟩, ⟨(some 40), (.len false (.t 39)), none, 0⟩, ⟨(some 41), (.bin .lss (.t 40) (.c (.int 3))), none, 0⟩, ⟨(some 42), (.mov (.t 41)), none, 0⟩, ⟨(some 43), (.mov (.t 10)), (some (42, false)), 0⟩, ⟨(some 44), (.iadS 1 (.t 43) (.c (.int 0))), (some (42, false)), 0⟩, ⟨(some 45), (.load none (.t 44)), (some (42, false)), 1⟩, ⟨(some 46), (.conv .u8i (.t 45)), (some (42, false)), 0⟩, ⟨(some 47), (.bin .shl (.t 46) (.c (.u64 8))), (some (42, false)), 0⟩, ⟨(some 48), (.mov (.t 10)), (some (42, false)), 0⟩, ⟨(some 49), (.iadS 1 (.t 48) (.c (.int 1))), (some (42, false)), 0⟩, ⟨(some 50), (.load none (.t 49)), (some (42, false)), 1⟩, ⟨(some 51), (.conv .u8i (.t 50)), (some (42, false)), 0⟩, ⟨(some 52), (.bin .add (.t 47) (.t 51)), (some (42, false)), 0⟩, ⟨(some 53), (.mov (.t 10)), (some (42, false)), 0⟩, ⟨(some 54), (.len false (.t 53)), (some (42, false)), 0⟩, ⟨(some 55), (.bin .sub (.t 54) (.c (.int 2))), (some (42, false)), 0⟩, ⟨(some 56), (.eq true .sc (.t 52) (.t 55)), (some (42, false)), 0⟩, ⟨(some 57), (.pick (.t 42) (.c (.bool true)) (.t 56)), none, 0⟩, ⟨(some 58), (.mov (.t 57)), none, 0⟩, ⟨(some 59), (.mov (.t 10)), (some (58, false)), 0⟩, ⟨(some 60), (.len false (.t 59)), (some (58, false)), 0⟩, ⟨(some 61), (.bin .sub (.t 60) (.c (.int 2))), (some (58, false)), 0⟩, ⟨(some 62), (.bin .gtr (.t 61) (.c (.int 200))), (some (58, false)), 0⟩, ⟨(some 63), (.pick (.t 58) (.c (.bool true)) (.t 62)), none, 0⟩, ⟨(some 64), (.mov (.t 63)), none, 0⟩, ⟨(some 65), (.mov (.t 10)), (some (64, false)), 0⟩, ⟨(some 66), (.iadS 1 (.t 65) (.c (.int 2))), (some (64, false)), 0⟩, ⟨(some 67), (.load none (.t 66)), (some (64, false)), 1⟩, ⟨(some 68), (.conv .u8i (.t 67)), (some (64, false)), 0⟩, ⟨(some 69), (.fad 0 (.t 9)), (some (64, false)), 0⟩, ⟨(some 70), (.load none (.t 69)), (some (64, false)), 1⟩, ⟨(some 71), (.eq true .sc (.t 68) (.t 70)), (some (64, false)), 0⟩, ⟨(some 72), (.pick (.t 64) (.c (.bool true)) (.t 71)), none, 0⟩]
 [])
 (.cond (.t 72)
 (.seq (.reg [⟨(some 8), (.mov (.c (.bool false))), none, 2⟩]
 [])
 .ret)
 .skip))
 (.seq (.reg [⟨(some 12), (.mov (.c (.int 3))), none, 2⟩, ⟨(some 13), (.mov (.c (.int 0))), none, 2⟩]
 [])
 (.seq (.block 0 (.loop (.seq (.seq (.reg [⟨(some 73), (.mov (.t 12)), none, 2⟩, ⟨(some 74), (.mov (.t 10)), none, 2⟩, ⟨(some 75), (.len false (.t 74)), none, 2⟩, ⟨(some 76), (.bin .lss (.t 73) (.t 75)), none, 2⟩]
 [])
 (.cond (.t 76)
 .skip
 (.exit 0)))
 (.block 1 (.seq (.seq (.reg [⟨(some 77), (.mov (.t 12)), none, 2⟩, ⟨(some 78), (.bin .add (.t 77) (.c (.int 2))), none, 2⟩, ⟨(some 79), (.mov (.t 10)), none, 2⟩, ⟨(some 80), (.len false (.t 79)), none, 2⟩, ⟨(some 81), (.bin .gtr (.t 78) (.t 80)), none, 2⟩, ⟨(some 82), (.mov (.t 81)), none, 2⟩, ⟨(some 83), (.mov (.t 10)), (some (82, false)), 2⟩, ⟨(some 84), (.mov (.t 12)), (some (82, false)), 2⟩, ⟨(some 85), (.iadS 1 (.t 83) (.t 84)), (some (82, false)), 2⟩, ⟨(some 86), (.load none (.t 85)), (some (82, false)), 2⟩, ⟨(some 87), (.conv .u8i (.t 86)), (some (82, false)), 2⟩, ⟨(some 88), (.mov (.t 13)), (some (82, false)), 2⟩, ⟨(some 89), (.bin .leq (.t 87) (.t 88)), (some (82, false)), 2⟩, ⟨(some 90), (.pick (.t 82) (.c (.bool true)) (.t 89)), none, 2⟩, ⟨(some 91), (.mov (.t 90)), none, 2⟩, ⟨(some 92), (.mov (.t 10)), (some (91, false)), 2⟩, ⟨(some 93), (.mov (.t 12)), (some (91, false)), 2⟩, ⟨(some 94), (.iadS 1 (.t 92) (.t 93)), (some (91, false)), 2⟩, ⟨(some 95), (.load none (.t 94)), (some (91, false)), 2⟩, ⟨(some 96), (.conv .u8i (.t 95)), (some (91, false)), 2⟩, ⟨(some 97), (.bin .gtr (.t 96) (.c (.int 11))), (some (91, false)), 2⟩, ⟨(some 98), (.pick (.t 91) (.c (.bool true)) (.t 97)), none, 2⟩, ⟨(some 99), (.mov (.t 98)), none, 2⟩, ⟨(some 100), (.mov (.t 10)), (some (99, false)), 2⟩, ⟨(some 101), (.mov (.t 12)), (some (99, false)), 2⟩, ⟨(some 102), (.bin .add (.t 101) (.c (.int 1))), (some (99, false)), 2⟩, ⟨(some 103), (.iadS 1 (.t 100) (.t 102)), (some (99, false)), 2⟩, ⟨(some 104), (.load none (.t 103)), (some (99, false)), 2⟩, ⟨(some 105), (.eq false .sc (.t 104) (.c (.u8 0))), (some (99, false)), 2⟩, ⟨(some 106), (.pick (.t 99) (.c (.bool true)) (.t 105)), none, 2⟩, ⟨(some 107), (.mov (.t 106)), none, 2⟩, ⟨(some 108), (.mov (.t 12)), (some (107, false)), 2⟩, ⟨(some 109), (.bin .add (.t 108) (.c (.int 2))), (some (107, false)), 2⟩, ⟨(some 110), (.mov (.t 10)), (some (107, false)), 2⟩, ⟨(some 111), (.mov (.t 12)), (some (107, false)), 2⟩, ⟨(some 112), (.bin .add (.t 111) (.c (.int 1))), (some (107, false)), 2⟩, ⟨(some 113), (.iadS 1 (.t 110) (.t 112)), (some (107, false)), 2⟩, ⟨(some 114), (.load none (.t 113)), (some (107, false)), 2⟩, ⟨(some 115), (.conv .u8i (.t 114)), (some (107, false)), 2⟩, ⟨(some 116), (.bin .add (.t 109) (.t 115)), (some (107, false)), 2⟩, ⟨(some 117), (.mov (.t 10)), (some (107, false)), 2⟩, ⟨(some 118), (.len false (.t 117)), (some (107, false)), 2⟩, ⟨(some 119), (.bin .gtr (.t 116) (.t 118)), (some (107, false)), 2⟩, ⟨(some 120), (.pick (.t 107) (.c (.bool true)) (.t 119)), none, 2⟩]
 [])
 (.cond (.t 120)
 (.seq (.reg [⟨(some 8), (.mov (.c (.bool false))), none, 2⟩]
 [])
 .ret)
 .skip))
 (.seq (.reg [⟨(some 121), (.mov (.t 10)), none, 2⟩, ⟨(some 122), (.mov (.t 12)), none, 2⟩, ⟨(some 123), (.iadS 1 (.t 121) (.t 122)), none, 2⟩, ⟨(some 124), (.load none (.t 123)), none, 2⟩, ⟨(some 125), (.conv .u8i (.t 124)), none, 2⟩, ⟨(some 13), (.mov (.t 125)), none, 2⟩]
 [])
 (.reg [⟨(some 126), (.mov (.t 12)), none, 2⟩, ⟨(some 127), (.bin .add (.t 126) (.c (.int 2))), none, 2⟩, ⟨(some 128), (.mov (.t 10)), none, 2⟩, ⟨(some 129), (.mov (.t 12)), none, 2⟩, ⟨(some 130), (.bin .add (.t 129) (.c (.int 1))), none, 2⟩, ⟨(some 131), (.iadS 1 (.t 128) (.t 130)), none, 2⟩, ⟨(some 132), (.load none (.t 131)), none, 2⟩, ⟨(some 133), (.conv .u8i (.t 132)), none, 2⟩, ⟨(some 134), (.bin .add (.t 127) (.t 133)), none, 2⟩, ⟨(some 12), (.mov (.t 134)), none, 2⟩]
 [])))))))
 (.seq (.reg [⟨(some 135), (.mov (.t 12)), none, 2⟩, ⟨(some 136), (.mov (.t 10)), none, 2⟩, ⟨(some 137), (.len false (.t 136)), none, 2⟩, ⟨(some 138), (.eq false .sc (.t 135) (.t 137)), none, 2⟩, ⟨(some 8), (.mov (.t 138)), none, 2⟩]
 [])
 .ret))))))))))
theorem c9_ok : comp (tiOf Try.prog) mu9 [19, 21, 22, 25, 34, 38, 41, 42, 43, 46, 50, 56, 57, 58, 59, 62, 63, 65, 66, 71, 72, 73, 74, 75, 76] N9 (Try.f9.body.getD .skip) = c9 := by kernel_rfl
theorem b9 : Try.f9.body = some (Try.f9.body.getD .skip) := by kernel_rfl
theorem run9 {Γ : G} (hsp : SpOK Try.prog Γ.sp) {args : List AV} {h : List AO} {own : Bool} {kn : Nat} {K : AV → List AO → Prop} (hl : args.length ≤ N9) (hk0 : Γ.k0 = hlen h) (hkn : hlen h ≤ kn)
    (hrun : run Γ c9 (leafK Γ.sp res9 own kn K) [] (leafK Γ.sp res9 own kn K) (argS 0 args) h) (htn : Γ.tn ≤ N9 := by exact Nat.zero_le _)
    (hrf : ∀ F, rfind Γ.rf F = true → FdIter Try.prog F ∧ ∀ args w, (callFunc F args).run Try.prog w = .ok (.enter F args) w := by exact fun F h => absurd h (show ¬ (false = true) from Bool.false_ne_true)) : ACalls Try.prog 9 args h K :=
  acalls_of_run (tiOf_ok _) hsp follows Try.func9 b9 (rs := Try.f9.results.toList) (Array.toArray_toList).symm (by kernel_rfl) (by kernel_rfl) c9_ok (by kernel_rfl) hl hk0 htn hrf hkn hrun
theorem in9 : ∀ args w, (callFunc 9 args).run Try.prog w = .ok (.enter 9 args) w := callFunc_enter Try.func9 (by kernel_rfl) (by kernel_rfl)

/-- sentinel/sentinellaw5.WireRows -/
def N10 : Nat := 102
def mu10 : List Nat := []
def keep10 : List Nat := [0, 1, 2, 3, 8, 9, 10, 11, 12, 13, 14, 15, 16, 17, 19, 21, 29, 32, 40, 59, 67, 71, 89]
def res10 : List RV := [(.t 8)]
def c10 : CC :=
 (.seq (.reg [⟨(some 8), (.mov (.c (.bool false))), none, 2⟩]
 [])
 (.seq (.seq (.reg [⟨(some 20), (.call (.c (.fn 15 [])) []), none, 2⟩, ⟨(some 21), (.un .not (.t 20)), none, 2⟩]
 [])
 (.cond (.t 21)
 (.seq (.reg [⟨(some 8), (.mov (.c (.bool false))), none, 2⟩]
 [])
 .ret)
 .skip))
 (.seq (.seq (.reg [⟨(some 22), (.mov (.t 2)), none, 2⟩, ⟨(some 23), (.len true (.t 22)), none, 2⟩, ⟨(some 24), (.bin .gtr (.t 23) (.c (.int 40))), none, 2⟩, ⟨(some 25), (.mov (.t 24)), none, 2⟩, ⟨(some 26), (.mov (.t 3)), (some (25, false)), 2⟩, ⟨(some 27), (.len false (.t 26)), (some (25, false)), 2⟩, ⟨(some 28), (.bin .gtr (.t 27) (.c (.int 100))), (some (25, false)), 2⟩, ⟨(some 29), (.pick (.t 25) (.c (.bool true)) (.t 28)), none, 2⟩]
 [])
 (.cond (.t 29)
 (.seq (.reg [⟨(some 8), (.mov (.c (.bool true))), none, 2⟩]
 [])
 .ret)
 .skip))
 (.seq (.reg [⟨(some 30), (.call (.c (.fn 26 [])) []), none, 2⟩, ⟨(some 9), (.mov (.t 30)), none, 2⟩]
 [])
 (.seq (.seq (.reg [⟨(some 31), (.mov (.t 9)), none, 2⟩, ⟨(some 32), (.eq false .ptr (.t 31) (.c .nilp)), none, 2⟩]
 [])
 (.cond (.t 32)
 (.seq (.reg [⟨(some 8), (.mov (.c (.bool false))), none, 2⟩]
 [])
 .ret)
 .skip))
 (.seq (.reg [⟨(some 10), (.mov (.c (.sl true 0 0 (.agg []) true))), none, 2⟩]
 [])
 (.seq (.seq (.reg [⟨(some 11), (.mov (.c (.int 0))), none, 2⟩]
 [])
 (.block 0 (.loop (.seq (.seq (.reg [⟨(some 33), (.mov (.t 11)), none, 2⟩, ⟨(some 34), (.mov (.t 0)), none, 2⟩, ⟨(some 35), (.len false (.t 34)), none, 2⟩, ⟨(some 36), (.bin .lss (.t 33) (.t 35)), none, 2⟩, ⟨(some 37), (.mov (.t 36)), none, 2⟩, ⟨(some 38), (.mov (.t 11)), (some (37, true)), 2⟩, ⟨(some 39), (.bin .lss (.t 38) (.c (.int 12))), (some (37, true)), 2⟩, ⟨(some 40), (.pick (.t 37) (.t 39) (.c (.bool false))), none, 2⟩]
 [])
 (.cond (.t 40)
 .skip
 (.exit 0)))
 (.seq (.block 1 (.seq (.reg [⟨(some 43), (.mov (.t 0)), none, 2⟩, ⟨(some 44), (.mov (.t 11)), none, 2⟩, ⟨(some 45), (.iadS 1 (.t 43) (.t 44)), none, 2⟩, ⟨(some 46), (.load none (.t 45)), none, 2⟩, ⟨(some 47), (.mov (.t 1)), none, 2⟩, ⟨(some 48), (.mov (.t 11)), none, 2⟩, ⟨(some 49), (.bin .add (.t 47) (.t 48)), none, 2⟩, ⟨(some 50), (.mov (.t 2)), none, 2⟩, ⟨(some 51), (.mov (.t 3)), none, 2⟩, ⟨(some 52), (.call (.c (.fn 16 [])) [(.t 46), (.t 49), (.t 50), (.t 51)]), none, 2⟩, ⟨(some 12), (.alloc (.agg [(.int 0), (.int 0), (.int 0), (.int 0), (.str []), (.u32 0), (.u32 0), (.u32 0), (.u32 0), (.u32 0), (.u32 0), (.u32 0), (.u32 0), (.u32 0), (.u32 0), (.u32 0), (.u32 0), (.u32 0), (.u32 0), (.u32 0), (.u32 0), (.sl true 0 0 (.agg []) true), (.sl true 0 0 (.agg []) true), (.sl true 0 0 (.agg []) true), (.sl true 0 0 (.agg []) true), (.sl true 0 0 (.agg []) true)])), none, 2⟩, ⟨none, (.store (some 26) (.t 12) (.t 52)), none, 2⟩]
 [])
 (.seq (.reg [⟨(some 54), (.load (some 26) (.t 12)), none, 2⟩, ⟨(some 55), (.call (.c (.fn 18 [])) [(.t 54)]), none, 2⟩, ⟨(some 53), (.mov (.t 55)), none, 2⟩, ⟨(some 56), (.ext (.t 53) 0), none, 2⟩, ⟨(some 57), (.ext (.t 53) 1), none, 2⟩, ⟨(some 13), (.mov (.t 56)), none, 2⟩, ⟨(some 14), (.mov (.t 57)), none, 2⟩]
 [])
 (.seq (.seq (.reg [⟨(some 58), (.mov (.t 14)), none, 2⟩, ⟨(some 59), (.un .not (.t 58)), none, 2⟩]
 [])
 (.cond (.t 59)
 (.exit 1)
 .skip))
 (.seq (.reg [⟨(some 60), (.mov (.t 10)), none, 2⟩, ⟨(some 61), (.load (some 26) (.t 12)), none, 2⟩, ⟨(some 62), (.bsl false .other 26 1 [(.int 0), (.int 0), (.int 0), (.int 0), (.str []), (.u32 0), (.u32 0), (.u32 0), (.u32 0), (.u32 0), (.u32 0), (.u32 0), (.u32 0), (.u32 0), (.u32 0), (.u32 0), (.u32 0), (.u32 0), (.u32 0), (.u32 0), (.u32 0), (.sl true 0 0 (.agg []) true), (.sl true 0 0 (.agg []) true), (.sl true 0 0 (.agg []) true), (.sl true 0 0 (.agg []) true), (.sl true 0 0 (.agg []) true)] [(0, (26, (.t 61)))]), none, 2⟩, ⟨(some 63), (.app true 26 232 (.t 60) (.t 62)), none, 2⟩, ⟨(some 10), (.mov (.t 63)), none, 2⟩]
 [])
 (.seq (.reg [⟨(some 64), (.mov (.t 9)), none, 2⟩, ⟨(some 65), (.mov (.t 13)), none, 2⟩, ⟨(some 66), (.call (.c (.fn 28 [])) [(.t 64), (.t 65)]), none, 2⟩, ⟨(some 67), (.un .not (.t 66)), none, 2⟩]
 [])
 (.cond (.t 67)
 (.seq (.reg [⟨(some 8), (.mov (.c (.bool false))), none, 2⟩]
 [])
 .ret)
 .skip)))))))
 (.reg [⟨(some 41), (.mov (.t 11)), none, 2⟩, ⟨(some 42), (.bin .add (.t 41) (.c (.int 1))), none, 2⟩, ⟨(some 11), (.mov (.t 42)), none, 2⟩]
 []))))))
 (.seq (.seq (.reg [⟨(some 15), (.mov (.c (.int 0))), none, 2⟩]
 [])
 (.block 2 (.loop (.seq (.seq (.reg [⟨(some 68), (.mov (.t 15)), none, 2⟩, ⟨(some 69), (.mov (.t 10)), none, 2⟩, ⟨(some 70), (.len false (.t 69)), none, 2⟩, ⟨(some 71), (.bin .lss (.t 68) (.t 70)), none, 2⟩]
 [])
 (.cond (.t 71)
 .skip
 (.exit 2)))
 (.seq (.block 3 (.seq (.reg [⟨(some 75), (.mov (.t 9)), none, 2⟩, ⟨(some 76), (.call (.c (.fn 30 [])) [(.t 75)]), none, 2⟩, ⟨(some 74), (.mov (.t 76)), none, 2⟩, ⟨(some 77), (.ext (.t 74) 0), none, 2⟩, ⟨(some 78), (.ext (.t 74) 1), none, 2⟩, ⟨(some 16), (.alloc (.agg [(.int 0), (.int 0), (.int 0), (.int 0), (.str []), (.u32 0), (.u32 0), (.u32 0), (.u32 0), (.u32 0), (.u32 0), (.u32 0), (.u32 0), (.u32 0), (.u32 0), (.u32 0), (.u32 0), (.u32 0), (.u32 0), (.u32 0), (.u32 0), (.sl true 0 0 (.agg []) true), (.sl true 0 0 (.agg []) true), (.sl true 0 0 (.agg []) true), (.sl true 0 0 (.agg []) true), (.sl true 0 0 (.agg []) true)])), none, 2⟩, ⟨none, (.store (some 26) (.t 16) (.t 77)), none, 2⟩, ⟨(some 17), (.mov (.t 78)), none, 2⟩]
 [])
 (.seq (.reg [⟨(some 79), (.mov (.t 17)), none, 0⟩, ⟨(some 80), (.un .not (.t 79)), none, 0⟩, ⟨(some 81), (.mov (.t 80)), none, 0⟩, ⟨(some 82), (.load (some 26) (.t 16)), (some (81, false)), 1⟩, ⟨(some 83), (.mov (.t 10)), (some (81, false)), 0⟩, ⟨(some 84), (.mov (.t 15)), (some (81, false)), 0⟩, ⟨(some 85), (.iadS 26 (.t 83) (.t 84)), (some (81, false)), 0⟩, ⟨(some 86), (.load (some 26) (.t 85)), (some (81, false)), 1⟩, ⟨(some 87), (.call (.c (.fn 21 [])) [(.t 82), (.t 86)]), (some (81, false)), 0⟩, ⟨(some 88), (.un .not (.t 87)), (some (81, false)), 0⟩, ⟨(some 89), (.pick (.t 81) (.c (.bool true)) (.t 88)), none, 0⟩]
 [])
 (.cond (.t 89)
 (.seq (.reg [⟨(some 8), (.mov (.c (.bool false))), none, 2⟩]
 [])
 .ret)
 .skip))))
 (.reg [⟨(some 72), (.mov (.t 15)), none, 2⟩, ⟨(some 73), (.bin .add (.t 72) (.c (.int 1))), none, 2⟩, ⟨(some 15), (.mov (.t 73)), none, 2⟩]
 []))))))
 (.seq (.reg [⟨(some 91), (.mov (.t 9)), none, 2⟩, ⟨(some 92), (.call (.c (.fn 30 [])) [(.t 91)]), none, 2⟩, ⟨(some 90), (.mov (.t 92)), none, 2⟩, ⟨(some 93), (.ext (.t 90) 0), none, 2⟩, ⟨(some 94), (.ext (.t 90) 1), none, 2⟩, ⟨(some 18), (.alloc (.agg [(.int 0), (.int 0), (.int 0), (.int 0), (.str []), (.u32 0), (.u32 0), (.u32 0), (.u32 0), (.u32 0), (.u32 0), (.u32 0), (.u32 0), (.u32 0), (.u32 0), (.u32 0), (.u32 0), (.u32 0), (.u32 0), (.u32 0), (.u32 0), (.sl true 0 0 (.agg []) true), (.sl true 0 0 (.agg []) true), (.sl true 0 0 (.agg []) true), (.sl true 0 0 (.agg []) true), (.sl true 0 0 (.agg []) true)])), none, 2⟩, ⟨none, (.store (some 26) (.t 18) (.t 93)), none, 2⟩, ⟨(some 19), (.mov (.t 94)), none, 2⟩]
 [])
 (.seq (.reg [⟨(some 95), (.mov (.t 19)), none, 2⟩, ⟨(some 96), (.un .not (.t 95)), none, 2⟩, ⟨(some 97), (.mov (.t 96)), none, 2⟩, ⟨(some 98), (.mov (.t 9)), (some (97, true)), 2⟩, ⟨(some 99), (.call (.c (.fn 32 [])) [(.t 98)]), (some (97, true)), 2⟩, ⟨(some 100), (.un .not (.t 99)), (some (97, true)), 2⟩, ⟨(some 101), (.pick (.t 97) (.t 100) (.c (.bool false))), none, 2⟩, ⟨(some 8), (.mov (.t 101)), none, 2⟩]
 [])
 .ret))))))))))
theorem c10_ok : comp (tiOf Try.prog) mu10 [19, 21, 22, 25, 34, 38, 41, 42, 43, 46, 50, 56, 57, 58, 59, 62, 63, 65, 66, 71, 72, 73, 74, 75, 76] N10 (Try.f10.body.getD .skip) = c10 := by kernel_rfl
theorem b10 : Try.f10.body = some (Try.f10.body.getD .skip) := by kernel_rfl
theorem run10 {Γ : G} (hsp : SpOK Try.prog Γ.sp) {args : List AV} {h : List AO} {own : Bool} {kn : Nat} {K : AV → List AO → Prop} (hl : args.length ≤ N10) (hk0 : Γ.k0 = hlen h) (hkn : hlen h ≤ kn)
    (hrun : run Γ c10 (leafK Γ.sp res10 own kn K) [] (leafK Γ.sp res10 own kn K) (argS 0 args) h) (htn : Γ.tn ≤ N10 := by exact Nat.zero_le _)
    (hrf : ∀ F, rfind Γ.rf F = true → FdIter Try.prog F ∧ ∀ args w, (callFunc F args).run Try.prog w = .ok (.enter F args) w := by exact fun F h => absurd h (show ¬ (false = true) from Bool.false_ne_true)) : ACalls Try.prog 10 args h K :=
  acalls_of_run (tiOf_ok _) hsp follows Try.func10 b10 (rs := Try.f10.results.toList) (Array.toArray_toList).symm (by kernel_rfl) (by kernel_rfl) c10_ok (by kernel_rfl) hl hk0 htn hrf hkn hrun
theorem in10 : ∀ args w, (callFunc 10 args).run Try.prog w = .ok (.enter 10 args) w := callFunc_enter Try.func10 (by kernel_rfl) (by kernel_rfl)

/-- sentinel/sentinellaw5.WireBad -/
def N11 : Nat := 131
def mu11 : List Nat := []
def keep11 : List Nat := [0, 1, 2, 3, 4, 5, 12, 13, 14, 16, 18, 20, 22, 23, 24, 26, 39, 42, 82, 83, 89]
def res11 : List RV := [(.t 12)]
def c11 : CC :=
 (.seq (.reg [⟨(some 12), (.mov (.c (.bool false))), none, 2⟩]
 [])
 (.seq (.seq (.reg [⟨(some 25), (.call (.c (.fn 15 [])) []), none, 2⟩, ⟨(some 26), (.un .not (.t 25)), none, 2⟩]
 [])
 (.cond (.t 26)
 (.seq (.reg [⟨(some 12), (.mov (.c (.bool false))), none, 2⟩]
 [])
 .ret)
 .skip))
 (.seq (.seq (.reg [⟨(some 27), (.mov (.t 2)), none, 2⟩, ⟨(some 28), (.len true (.t 27)), none, 2⟩, ⟨(some 29), (.bin .gtr (.t 28) (.c (.int 40))), none, 2⟩, ⟨(some 30), (.mov (.t 29)), none, 2⟩, ⟨(some 31), (.mov (.t 3)), (some (30, false)), 2⟩, ⟨(some 32), (.len false (.t 31)), (some (30, false)), 2⟩, ⟨(some 33), (.bin .gtr (.t 32) (.c (.int 100))), (some (30, false)), 2⟩, ⟨(some 34), (.pick (.t 30) (.c (.bool true)) (.t 33)), none, 2⟩, ⟨(some 35), (.mov (.t 34)), none, 2⟩, ⟨(some 36), (.mov (.t 5)), (some (35, false)), 2⟩, ⟨(some 37), (.len false (.t 36)), (some (35, false)), 2⟩, ⟨(some 38), (.bin .gtr (.t 37) (.c (.int 60))), (some (35, false)), 2⟩, ⟨(some 39), (.pick (.t 35) (.c (.bool true)) (.t 38)), none, 2⟩]
 [])
 (.cond (.t 39)
 (.seq (.reg [⟨(some 12), (.mov (.c (.bool true))), none, 2⟩]
 [])
 .ret)
 .skip))
 (.seq (.reg [⟨(some 40), (.call (.c (.fn 26 [])) []), none, 2⟩, ⟨(some 13), (.mov (.t 40)), none, 2⟩]
 [])
 (.seq (.seq (.reg [⟨(some 41), (.mov (.t 13)), none, 2⟩, ⟨(some 42), (.eq false .ptr (.t 41) (.c .nilp)), none, 2⟩]
 [])
 (.cond (.t 42)
 (.seq (.reg [⟨(some 12), (.mov (.c (.bool false))), none, 2⟩]
 [])
 .ret)
 .skip))
 (.seq (.reg [⟨(some 44), (.mov (.t 0)), none, 2⟩, ⟨(some 45), (.mov (.t 1)), none, 2⟩, ⟨(some 46), (.mov (.t 2)), none, 2⟩, ⟨(some 47), (.mov (.t 3)), none, 2⟩, ⟨(some 48), (.call (.c (.fn 16 [])) [(.t 44), (.t 45), (.t 46), (.t 47)]), none, 2⟩, ⟨(some 49), (.call (.c (.fn 18 [])) [(.t 48)]), none, 2⟩, ⟨(some 43), (.mov (.t 49)), none, 2⟩, ⟨(some 50), (.ext (.t 43) 0), none, 2⟩, ⟨(some 51), (.ext (.t 43) 1), none, 2⟩, ⟨(some 14), (.mov (.t 50)), none, 2⟩, ⟨(some 15), (.mov (.t 51)), none, 2⟩]
 [])
 (.seq (.reg [⟨(some 52), (.bsl false .u8 1 2 [(.u8 0)] [(0, (1, (.c (.u8 0)))), (1, (1, (.c (.u8 201))))]), none, 2⟩, ⟨(some 53), (.bsl false .u8 1 2 [(.u8 0)] [(0, (1, (.c (.u8 255)))), (1, (1, (.c (.u8 255))))]), none, 2⟩, ⟨(some 54), (.bsl false .u8 1 2 [(.u8 0)] [(0, (1, (.c (.u8 0)))), (1, (1, (.c (.u8 0))))]), none, 2⟩, ⟨(some 55), (.bsl false .u8 1 3 [(.u8 0)] [(0, (1, (.c (.u8 0)))), (1, (1, (.c (.u8 1)))), (2, (1, (.c (.u8 0))))]), none, 2⟩, ⟨(some 56), (.bsl false .u8 1 3 [(.u8 0)] [(0, (1, (.c (.u8 0)))), (1, (1, (.c (.u8 1)))), (2, (1, (.c (.u8 13))))]), none, 2⟩, ⟨(some 57), (.bsl false .u8 1 4 [(.u8 0)] [(0, (1, (.c (.u8 0)))), (1, (1, (.c (.u8 2)))), (2, (1, (.c (.u8 7)))), (3, (1, (.c (.u8 0))))]), none, 2⟩, ⟨(some 58), (.bsl false .u8 1 5 [(.u8 0)] [(0, (1, (.c (.u8 0)))), (1, (1, (.c (.u8 3)))), (2, (1, (.c (.u8 5)))), (3, (1, (.c (.u8 11)))), (4, (1, (.c (.u8 0))))]), none, 2⟩, ⟨(some 59), (.bsl false .u8 1 6 [(.u8 0)] [(0, (1, (.c (.u8 0)))), (1, (1, (.c (.u8 4)))), (2, (1, (.c (.u8 5)))), (3, (1, (.c (.u8 11)))), (4, (1, (.c (.u8 1)))), (5, (1, (.c (.u8 0))))]), none, 2⟩, ⟨(some 60), (.bsl false .u8 1 6 [(.u8 0)] [(0, (1, (.c (.u8 0)))), (1, (1, (.c (.u8 4)))), (2, (1, (.c (.u8 5)))), (3, (1, (.c (.u8 11)))), (4, (1, (.c (.u8 1)))), (5, (1, (.c (.u8 12))))]), none, 2⟩, ⟨(some 61), (.bsl false .other 1 9 [(.sl true 0 0 (.agg []) true)] [(0, (1, (.t 52))), (1, (1, (.t 53))), (2, (1, (.t 54))), (3, (1, (.t 55))), (4, (1, (.t 56))), (5, (1, (.t 57))), (6, (1, (.t 58))), (7, (1, (.t 59))), (8, (1, (.t 60)))]), none, 2⟩, ⟨(some 62), (.mov (.t 4)), none, 2⟩, ⟨(some 63), (.call (.c (.fn 22 [])) [(.t 62), (.c (.int 9))]), none, 2⟩, ⟨(some 64), (.iadS 1 (.t 61) (.t 63)), none, 2⟩, ⟨(some 65), (.load none (.t 64)), none, 2⟩, ⟨(some 16), (.mov (.t 65)), none, 2⟩]
 [])
 (.seq (.reg [⟨(some 66), (.mov (.t 13)), none, 2⟩, ⟨(some 67), (.bsl false .u8 1 0 [(.u8 0)] []), none, 2⟩, ⟨(some 68), (.mov (.t 14)), none, 2⟩, ⟨(some 69), (.app true 1 1 (.t 67) (.t 68)), none, 2⟩, ⟨(some 70), (.mov (.t 16)), none, 2⟩, ⟨(some 71), (.app true 1 1 (.t 69) (.t 70)), none, 2⟩, ⟨(some 72), (.call (.c (.fn 28 [])) [(.t 66), (.t 71)]), none, 2⟩]
 [])
 (.seq (.reg [⟨(some 74), (.mov (.t 13)), none, 2⟩, ⟨(some 75), (.call (.c (.fn 30 [])) [(.t 74)]), none, 2⟩, ⟨(some 73), (.mov (.t 75)), none, 2⟩, ⟨(some 76), (.ext (.t 73) 0), none, 2⟩, ⟨(some 77), (.ext (.t 73) 1), none, 2⟩, ⟨(some 17), (.alloc (.agg [(.int 0), (.int 0), (.int 0), (.int 0), (.str []), (.u32 0), (.u32 0), (.u32 0), (.u32 0), (.u32 0), (.u32 0), (.u32 0), (.u32 0), (.u32 0), (.u32 0), (.u32 0), (.u32 0), (.u32 0), (.u32 0), (.u32 0), (.u32 0), (.sl true 0 0 (.agg []) true), (.sl true 0 0 (.agg []) true), (.sl true 0 0 (.agg []) true), (.sl true 0 0 (.agg []) true), (.sl true 0 0 (.agg []) true)])), none, 2⟩, ⟨none, (.store (some 26) (.t 17) (.t 76)), none, 2⟩, ⟨(some 18), (.mov (.t 77)), none, 2⟩]
 [])
 (.seq (.seq (.reg [⟨(some 78), (.mov (.t 18)), none, 2⟩, ⟨(some 79), (.mov (.t 14)), none, 2⟩, ⟨(some 80), (.len false (.t 79)), none, 2⟩, ⟨(some 81), (.bin .gtr (.t 80) (.c (.int 0))), none, 2⟩, ⟨(some 82), (.eq true .bool (.t 78) (.t 81)), none, 2⟩]
 [])
 (.cond (.t 82)
 (.seq (.reg [⟨(some 12), (.mov (.c (.bool false))), none, 2⟩]
 [])
 .ret)
 .skip))
 (.seq (.seq (.reg [⟨(some 83), (.mov (.t 18)), none, 2⟩]
 [])
 (.cond (.t 83)
 (.seq (.reg [⟨(some 85), (.mov (.t 13)), none, 2⟩, ⟨(some 86), (.call (.c (.fn 30 [])) [(.t 85)]), none, 2⟩, ⟨(some 84), (.mov (.t 86)), none, 2⟩, ⟨(some 87), (.ext (.t 84) 0), none, 2⟩, ⟨(some 88), (.ext (.t 84) 1), none, 2⟩, ⟨(some 19), (.alloc (.agg [(.int 0), (.int 0), (.int 0), (.int 0), (.str []), (.u32 0), (.u32 0), (.u32 0), (.u32 0), (.u32 0), (.u32 0), (.u32 0), (.u32 0), (.u32 0), (.u32 0), (.u32 0), (.u32 0), (.u32 0), (.u32 0), (.u32 0), (.u32 0), (.sl true 0 0 (.agg []) true), (.sl true 0 0 (.agg []) true), (.sl true 0 0 (.agg []) true), (.sl true 0 0 (.agg []) true), (.sl true 0 0 (.agg []) true)])), none, 2⟩, ⟨none, (.store (some 26) (.t 19) (.t 87)), none, 2⟩, ⟨(some 20), (.mov (.t 88)), none, 2⟩]
 [])
 (.seq (.reg [⟨(some 89), (.mov (.t 20)), none, 2⟩]
 [])
 (.cond (.t 89)
 (.seq (.reg [⟨(some 12), (.mov (.c (.bool false))), none, 2⟩]
 [])
 .ret)
 .skip)))
 .skip))
 (.seq (.reg [⟨(some 91), (.mov (.t 13)), none, 2⟩, ⟨(some 92), (.call (.c (.fn 30 [])) [(.t 91)]), none, 2⟩, ⟨(some 90), (.mov (.t 92)), none, 2⟩, ⟨(some 93), (.ext (.t 90) 0), none, 2⟩, ⟨(some 94), (.ext (.t 90) 1), none, 2⟩, ⟨(some 21), (.alloc (.agg [(.int 0), (.int 0), (.int 0), (.int 0), (.str []), (.u32 0), (.u32 0), (.u32 0), (.u32 0), (.u32 0), (.u32 0), (.u32 0), (.u32 0), (.u32 0), (.u32 0), (.u32 0), (.u32 0), (.u32 0), (.u32 0), (.u32 0), (.u32 0), (.sl true 0 0 (.agg []) true), (.sl true 0 0 (.agg []) true), (.sl true 0 0 (.agg []) true), (.sl true 0 0 (.agg []) true), (.sl true 0 0 (.agg []) true)])), none, 2⟩, ⟨none, (.store (some 26) (.t 21) (.t 93)), none, 2⟩, ⟨(some 22), (.mov (.t 94)), none, 2⟩]
 [])
 (.seq (.reg [⟨(some 96), (.mov (.t 16)), none, 2⟩, ⟨(some 97), (.call (.c (.fn 23 [])) [(.t 96)]), none, 2⟩, ⟨(some 95), (.mov (.t 97)), none, 2⟩, ⟨(some 98), (.ext (.t 95) 0), none, 2⟩, ⟨(some 99), (.ext (.t 95) 1), none, 2⟩, ⟨(some 23), (.alloc (.agg [(.int 0), (.int 0), (.int 0), (.int 0), (.str []), (.u32 0), (.u32 0), (.u32 0), (.u32 0), (.u32 0), (.u32 0), (.u32 0), (.u32 0), (.u32 0), (.u32 0), (.u32 0), (.u32 0), (.u32 0), (.u32 0), (.u32 0), (.u32 0), (.sl true 0 0 (.agg []) true), (.sl true 0 0 (.agg []) true), (.sl true 0 0 (.agg []) true), (.sl true 0 0 (.agg []) true), (.sl true 0 0 (.agg []) true)])), none, 2⟩, ⟨none, (.store (some 26) (.t 23) (.t 98)), none, 2⟩, ⟨(some 24), (.mov (.t 99)), none, 2⟩]
 [])
 (.seq (.reg [⟨(some 100), (.mov (.t 13)), none, 2⟩, ⟨(some 101), (.call (.c (.fn 32 [])) [(.t 100)]), none, 2⟩, ⟨(some 102), (.mov (.t 101)), none, 2⟩, ⟨(some 103), (.mov (.t 22)), (some (102, true)), 2⟩, ⟨(some 104), (.un .not (.t 103)), (some (102, true)), 2⟩, ⟨(some 105), (.pick (.t 102) (.t 104) (.c (.bool false))), none, 2⟩, ⟨(some 106), (.mov (.t 105)), none, 2⟩, ⟨(some 107), (.mov (.t 24)), (some (106, true)), 2⟩, ⟨(some 108), (.un .not (.t 107)), (some (106, true)), 2⟩, ⟨(some 109), (.pick (.t 106) (.t 108) (.c (.bool false))), none, 2⟩, ⟨(some 110), (.mov (.t 109)), none, 2⟩, ⟨(some 111), (.fad 0 (.t 23)), (some (110, true)), 2⟩, ⟨(some 112), (.load none (.t 111)), (some (110, true)), 2⟩, ⟨(some 113), (.eq false .sc (.t 112) (.c (.int 0))), (some (110, true)), 2⟩, ⟨(some 114), (.pick (.t 110) (.t 113) (.c (.bool false))), none, 2⟩, ⟨(some 115), (.mov (.t 114)), none, 2⟩, ⟨(some 116), (.mov (.t 13)), (some (115, true)), 2⟩, ⟨(some 117), (.mov (.t 5)), (some (115, true)), 2⟩, ⟨(some 118), (.call (.c (.fn 28 [])) [(.t 116), (.t 117)]), (some (115, true)), 2⟩, ⟨(some 119), (.un .not (.t 118)), (some (115, true)), 2⟩, ⟨(some 120), (.pick (.t 115) (.t 119) (.c (.bool false))), none, 2⟩, ⟨(some 121), (.mov (.t 120)), none, 2⟩, ⟨(some 122), (.mov (.t 13)), (some (121, true)), 2⟩, ⟨(some 123), (.mov (.t 14)), (some (121, true)), 2⟩, ⟨(some 124), (.call (.c (.fn 28 [])) [(.t 122), (.t 123)]), (some (121, true)), 2⟩, ⟨(some 125), (.un .not (.t 124)), (some (121, true)), 2⟩, ⟨(some 126), (.pick (.t 121) (.t 125) (.c (.bool false))), none, 2⟩, ⟨(some 127), (.mov (.t 126)), none, 2⟩, ⟨(some 128), (.mov (.t 13)), (some (127, true)), 2⟩, ⟨(some 129), (.call (.c (.fn 32 [])) [(.t 128)]), (some (127, true)), 2⟩, ⟨(some 130), (.pick (.t 127) (.t 129) (.c (.bool false))), none, 2⟩, ⟨(some 12), (.mov (.t 130)), none, 2⟩]
 [])
 .ret))))))))))))))
theorem c11_ok : comp (tiOf Try.prog) mu11 [19, 21, 22, 25, 34, 38, 41, 42, 43, 46, 50, 56, 57, 58, 59, 62, 63, 65, 66, 71, 72, 73, 74, 75, 76] N11 (Try.f11.body.getD .skip) = c11 := by kernel_rfl
theorem b11 : Try.f11.body = some (Try.f11.body.getD .skip) := by kernel_rfl
theorem run11 {Γ : G} (hsp : SpOK Try.prog Γ.sp) {args : List AV} {h : List AO} {own : Bool} {kn : Nat} {K : AV → List AO → Prop} (hl : args.length ≤ N11) (hk0 : Γ.k0 = hlen h) (hkn : hlen h ≤ kn)
    (hrun : run Γ c11 (leafK Γ.sp res11 own kn K) [] (leafK Γ.sp res11 own kn K) (argS 0 args) h) (htn : Γ.tn ≤ N11 := by exact Nat.zero_le _)
    (hrf : ∀ F, rfind Γ.rf F = true → FdIter Try.prog F ∧ ∀ args w, (callFunc F args).run Try.prog w = .ok (.enter F args) w := by exact fun F h => absurd h (show ¬ (false = true) from Bool.false_ne_true)) : ACalls Try.prog 11 args h K :=
  acalls_of_run (tiOf_ok _) hsp follows Try.func11 b11 (rs := Try.f11.results.toList) (Array.toArray_toList).symm (by kernel_rfl) (by kernel_rfl) c11_ok (by kernel_rfl) hl hk0 htn hrf hkn hrun
theorem in11 : ∀ args w, (callFunc 11 args).run Try.prog w = .ok (.enter 11 args) w := callFunc_enter Try.func11 (by kernel_rfl) (by kernel_rfl)

/-- sentinel/sentinellaw5.WireLong -/
def N12 : Nat := 78
def mu12 : List Nat := []
def keep12 : List Nat := [0, 1, 4, 5, 6, 7, 8, 9, 10, 11, 12, 13, 14, 16, 20, 28, 43, 59]
def res12 : List RV := [(.t 4)]
def c12 : CC :=
 (.seq (.reg [⟨(some 4), (.mov (.c (.bool false))), none, 2⟩]
 [])
 (.seq (.seq (.reg [⟨(some 15), (.call (.c (.fn 15 [])) []), none, 2⟩, ⟨(some 16), (.un .not (.t 15)), none, 2⟩]
 [])
 (.cond (.t 16)
 (.seq (.reg [⟨(some 4), (.mov (.c (.bool false))), none, 2⟩]
 [])
 .ret)
 .skip))
 (.seq (.reg [⟨(some 17), (.call (.c (.fn 26 [])) []), none, 2⟩, ⟨(some 18), (.call (.c (.fn 27 [])) []), none, 2⟩, ⟨(some 5), (.mov (.t 17)), none, 2⟩, ⟨(some 6), (.mov (.t 18)), none, 2⟩]
 [])
 (.seq (.seq (.reg [⟨(some 19), (.mov (.t 5)), none, 2⟩, ⟨(some 20), (.eq false .ptr (.t 19) (.c .nilp)), none, 2⟩]
 [])
 (.cond (.t 20)
 (.seq (.reg [⟨(some 4), (.mov (.c (.bool false))), none, 2⟩]
 [])
 .ret)
 .skip))
 (.seq (.reg [⟨(some 21), (.mov (.t 1)), none, 2⟩, ⟨(some 22), (.call (.c (.fn 22 [])) [(.t 21), (.c (.int 4000))]), none, 2⟩, ⟨(some 23), (.bin .add (.c (.int 9000)) (.t 22)), none, 2⟩, ⟨(some 7), (.mov (.t 23)), none, 2⟩]
 [])
 (.seq (.reg [⟨(some 24), (.mov (.t 7)), none, 2⟩, ⟨(some 25), (.mksl .u8 1 1 [(.u8 0)] (.t 24) (.t 24)), none, 2⟩, ⟨(some 8), (.mov (.t 25)), none, 2⟩]
 [])
 (.seq (.seq (.reg [⟨(some 9), (.mov (.c (.int 0))), none, 2⟩]
 [])
 (.block 0 (.loop (.seq (.seq (.reg [⟨(some 26), (.mov (.t 9)), none, 2⟩, ⟨(some 27), (.mov (.t 7)), none, 2⟩, ⟨(some 28), (.bin .lss (.t 26) (.t 27)), none, 2⟩]
 [])
 (.cond (.t 28)
 .skip
 (.exit 0)))
 (.seq (.block 1 (.reg [⟨(some 31), (.mov (.t 8)), none, 2⟩, ⟨(some 32), (.mov (.t 9)), none, 2⟩, ⟨(some 33), (.bsl false .u8 1 3 [(.u8 0)] [(0, (1, (.c (.u8 0)))), (1, (1, (.c (.u8 1)))), (2, (1, (.c (.u8 7))))]), none, 2⟩, ⟨(some 34), (.mov (.t 9)), none, 2⟩, ⟨(some 35), (.bin .rem (.t 34) (.c (.int 3))), none, 2⟩, ⟨(some 36), (.iadS 1 (.t 33) (.t 35)), none, 2⟩, ⟨(some 37), (.load none (.t 36)), none, 2⟩, ⟨(some 38), (.iadS 1 (.t 31) (.t 32)), none, 2⟩, ⟨none, (.store none (.t 38) (.t 37)), none, 2⟩]
 []))
 (.reg [⟨(some 29), (.mov (.t 9)), none, 2⟩, ⟨(some 30), (.bin .add (.t 29) (.c (.int 1))), none, 2⟩, ⟨(some 9), (.mov (.t 30)), none, 2⟩]
 []))))))
 (.seq (.seq (.reg [⟨(some 10), (.mov (.c (.int 0))), none, 2⟩]
 [])
 (.block 2 (.loop (.seq (.seq (.reg [⟨(some 39), (.mov (.t 10)), none, 2⟩, ⟨(some 40), (.mov (.t 0)), none, 2⟩, ⟨(some 41), (.call (.c (.fn 22 [])) [(.t 40), (.c (.int 8))]), none, 2⟩, ⟨(some 42), (.bin .add (.c (.int 9)) (.t 41)), none, 2⟩, ⟨(some 43), (.bin .lss (.t 39) (.t 42)), none, 2⟩]
 [])
 (.cond (.t 43)
 .skip
 (.exit 2)))
 (.seq (.block 3 (.seq (.reg [⟨(some 46), (.mov (.t 5)), none, 2⟩, ⟨(some 47), (.mov (.t 8)), none, 2⟩, ⟨(some 48), (.call (.c (.fn 28 [])) [(.t 46), (.t 47)]), none, 2⟩, ⟨(some 49), (.mov (.t 6)), none, 2⟩, ⟨(some 50), (.mov (.t 8)), none, 2⟩, ⟨(some 51), (.call (.c (.fn 29 [])) [(.t 49), (.t 50)]), none, 2⟩, ⟨(some 52), (.eq true .bool (.t 48) (.t 51)), none, 2⟩, ⟨(some 53), (.mov (.t 52)), none, 2⟩, ⟨(some 54), (.mov (.t 5)), (some (53, false)), 2⟩, ⟨(some 55), (.call (.c (.fn 32 [])) [(.t 54)]), (some (53, false)), 2⟩, ⟨(some 56), (.mov (.t 6)), (some (53, false)), 2⟩, ⟨(some 57), (.call (.c (.fn 33 [])) [(.t 56)]), (some (53, false)), 2⟩, ⟨(some 58), (.eq true .bool (.t 55) (.t 57)), (some (53, false)), 2⟩, ⟨(some 59), (.pick (.t 53) (.c (.bool true)) (.t 58)), none, 2⟩]
 [])
 (.cond (.t 59)
 (.seq (.reg [⟨(some 4), (.mov (.c (.bool false))), none, 2⟩]
 [])
 .ret)
 .skip)))
 (.reg [⟨(some 44), (.mov (.t 10)), none, 2⟩, ⟨(some 45), (.bin .add (.t 44) (.c (.int 1))), none, 2⟩, ⟨(some 10), (.mov (.t 45)), none, 2⟩]
 []))))))
 (.seq (.reg [⟨(some 61), (.mov (.t 5)), none, 2⟩, ⟨(some 62), (.call (.c (.fn 30 [])) [(.t 61)]), none, 2⟩, ⟨(some 60), (.mov (.t 62)), none, 2⟩, ⟨(some 63), (.ext (.t 60) 0), none, 2⟩, ⟨(some 64), (.ext (.t 60) 1), none, 2⟩, ⟨(some 11), (.alloc (.agg [(.int 0), (.int 0), (.int 0), (.int 0), (.str []), (.u32 0), (.u32 0), (.u32 0), (.u32 0), (.u32 0), (.u32 0), (.u32 0), (.u32 0), (.u32 0), (.u32 0), (.u32 0), (.u32 0), (.u32 0), (.u32 0), (.u32 0), (.u32 0), (.sl true 0 0 (.agg []) true), (.sl true 0 0 (.agg []) true), (.sl true 0 0 (.agg []) true), (.sl true 0 0 (.agg []) true), (.sl true 0 0 (.agg []) true)])), none, 2⟩, ⟨none, (.store (some 26) (.t 11) (.t 63)), none, 2⟩, ⟨(some 12), (.mov (.t 64)), none, 2⟩]
 [])
 (.seq (.reg [⟨(some 66), (.mov (.t 6)), none, 2⟩, ⟨(some 67), (.call (.c (.fn 31 [])) [(.t 66)]), none, 2⟩, ⟨(some 65), (.mov (.t 67)), none, 2⟩, ⟨(some 68), (.ext (.t 65) 0), none, 2⟩, ⟨(some 69), (.ext (.t 65) 1), none, 2⟩, ⟨(some 13), (.alloc (.agg [(.int 0), (.int 0), (.int 0), (.int 0), (.str []), (.u32 0), (.u32 0), (.u32 0), (.u32 0), (.u32 0), (.u32 0), (.u32 0), (.u32 0), (.u32 0), (.u32 0), (.u32 0), (.u32 0), (.u32 0), (.u32 0), (.u32 0), (.u32 0), (.sl true 0 0 (.agg []) true), (.sl true 0 0 (.agg []) true), (.sl true 0 0 (.agg []) true), (.sl true 0 0 (.agg []) true), (.sl true 0 0 (.agg []) true)])), none, 2⟩, ⟨none, (.store (some 26) (.t 13) (.t 68)), none, 2⟩, ⟨(some 14), (.mov (.t 69)), none, 2⟩]
 [])
 (.seq (.reg [⟨(some 70), (.mov (.t 12)), none, 2⟩, ⟨(some 71), (.mov (.t 14)), none, 2⟩, ⟨(some 72), (.eq false .bool (.t 70) (.t 71)), none, 2⟩, ⟨(some 73), (.mov (.t 72)), none, 2⟩, ⟨(some 74), (.load (some 26) (.t 11)), (some (73, true)), 2⟩, ⟨(some 75), (.load (some 26) (.t 13)), (some (73, true)), 2⟩, ⟨(some 76), (.call (.c (.fn 21 [])) [(.t 74), (.t 75)]), (some (73, true)), 2⟩, ⟨(some 77), (.pick (.t 73) (.t 76) (.c (.bool false))), none, 2⟩, ⟨(some 4), (.mov (.t 77)), none, 2⟩]
 [])
 .ret)))))))))))
theorem c12_ok : comp (tiOf Try.prog) mu12 [19, 21, 22, 25, 34, 38, 41, 42, 43, 46, 50, 56, 57, 58, 59, 62, 63, 65, 66, 71, 72, 73, 74, 75, 76] N12 (Try.f12.body.getD .skip) = c12 := by kernel_rfl
theorem b12 : Try.f12.body = some (Try.f12.body.getD .skip) := by kernel_rfl
theorem run12 {Γ : G} (hsp : SpOK Try.prog Γ.sp) {args : List AV} {h : List AO} {own : Bool} {kn : Nat} {K : AV → List AO → Prop} (hl : args.length ≤ N12) (hk0 : Γ.k0 = hlen h) (hkn : hlen h ≤ kn)
    (hrun : run Γ c12 (leafK Γ.sp res12 own kn K) [] (leafK Γ.sp res12 own kn K) (argS 0 args) h) (htn : Γ.tn ≤ N12 := by exact Nat.zero_le _)
    (hrf : ∀ F, rfind Γ.rf F = true → FdIter Try.prog F ∧ ∀ args w, (callFunc F args).run Try.prog w = .ok (.enter F args) w := by exact fun F h => absurd h (show ¬ (false = true) from Bool.false_ne_true)) : ACalls Try.prog 12 args h K :=
  acalls_of_run (tiOf_ok _) hsp follows Try.func12 b12 (rs := Try.f12.results.toList) (Array.toArray_toList).symm (by kernel_rfl) (by kernel_rfl) c12_ok (by kernel_rfl) hl hk0 htn hrf hkn hrun
theorem in12 : ∀ args w, (callFunc 12 args).run Try.prog w = .ok (.enter 12 args) w := callFunc_enter Try.func12 (by kernel_rfl) (by kernel_rfl)

/-- sentinel/sentinellaw5.WireApart -/
def N13 : Nat := 113
def mu13 : List Nat := []
def keep13 : List Nat := [0, 1, 2, 3, 4, 5, 6, 14, 15, 16, 17, 18, 19, 20, 21, 22, 23, 25, 28, 46]
def res13 : List RV := [(.t 14)]
def c13 : CC :=
 (.seq (.reg [⟨(some 14), (.mov (.c (.bool false))), none, 2⟩]
 [])
 (.seq (.seq (.reg [⟨(some 27), (.call (.c (.fn 15 [])) []), none, 2⟩, ⟨(some 28), (.un .not (.t 27)), none, 2⟩]
 [])
 (.cond (.t 28)
 (.seq (.reg [⟨(some 14), (.mov (.c (.bool false))), none, 2⟩]
 [])
 .ret)
 .skip))
 (.seq (.seq (.reg [⟨(some 29), (.mov (.t 3)), none, 2⟩, ⟨(some 30), (.len true (.t 29)), none, 2⟩, ⟨(some 31), (.bin .gtr (.t 30) (.c (.int 40))), none, 2⟩, ⟨(some 32), (.mov (.t 31)), none, 2⟩, ⟨(some 33), (.mov (.t 4)), (some (32, false)), 2⟩, ⟨(some 34), (.len true (.t 33)), (some (32, false)), 2⟩, ⟨(some 35), (.bin .gtr (.t 34) (.c (.int 40))), (some (32, false)), 2⟩, ⟨(some 36), (.pick (.t 32) (.c (.bool true)) (.t 35)), none, 2⟩, ⟨(some 37), (.mov (.t 36)), none, 2⟩, ⟨(some 38), (.mov (.t 5)), (some (37, false)), 2⟩, ⟨(some 39), (.len false (.t 38)), (some (37, false)), 2⟩, ⟨(some 40), (.bin .gtr (.t 39) (.c (.int 100))), (some (37, false)), 2⟩, ⟨(some 41), (.pick (.t 37) (.c (.bool true)) (.t 40)), none, 2⟩, ⟨(some 42), (.mov (.t 41)), none, 2⟩, ⟨(some 43), (.mov (.t 6)), (some (42, false)), 2⟩, ⟨(some 44), (.len false (.t 43)), (some (42, false)), 2⟩, ⟨(some 45), (.bin .gtr (.t 44) (.c (.int 100))), (some (42, false)), 2⟩, ⟨(some 46), (.pick (.t 42) (.c (.bool true)) (.t 45)), none, 2⟩]
 [])
 (.cond (.t 46)
 (.seq (.reg [⟨(some 14), (.mov (.c (.bool true))), none, 2⟩]
 [])
 .ret)
 .skip))
 (.seq (.reg [⟨(some 47), (.mov (.t 0)), none, 2⟩, ⟨(some 48), (.mov (.t 1)), none, 2⟩, ⟨(some 49), (.mov (.t 3)), none, 2⟩, ⟨(some 50), (.mov (.t 5)), none, 2⟩, ⟨(some 51), (.call (.c (.fn 16 [])) [(.t 47), (.t 48), (.t 49), (.t 50)]), none, 2⟩, ⟨(some 52), (.mov (.t 0)), none, 2⟩, ⟨(some 53), (.mov (.t 2)), none, 2⟩, ⟨(some 54), (.mov (.t 4)), none, 2⟩, ⟨(some 55), (.mov (.t 6)), none, 2⟩, ⟨(some 56), (.call (.c (.fn 16 [])) [(.t 52), (.t 53), (.t 54), (.t 55)]), none, 2⟩, ⟨(some 15), (.alloc (.agg [(.int 0), (.int 0), (.int 0), (.int 0), (.str []), (.u32 0), (.u32 0), (.u32 0), (.u32 0), (.u32 0), (.u32 0), (.u32 0), (.u32 0), (.u32 0), (.u32 0), (.u32 0), (.u32 0), (.u32 0), (.u32 0), (.u32 0), (.u32 0), (.sl true 0 0 (.agg []) true), (.sl true 0 0 (.agg []) true), (.sl true 0 0 (.agg []) true), (.sl true 0 0 (.agg []) true), (.sl true 0 0 (.agg []) true)])), none, 2⟩, ⟨(some 16), (.alloc (.agg [(.int 0), (.int 0), (.int 0), (.int 0), (.str []), (.u32 0), (.u32 0), (.u32 0), (.u32 0), (.u32 0), (.u32 0), (.u32 0), (.u32 0), (.u32 0), (.u32 0), (.u32 0), (.u32 0), (.u32 0), (.u32 0), (.u32 0), (.u32 0), (.sl true 0 0 (.agg []) true), (.sl true 0 0 (.agg []) true), (.sl true 0 0 (.agg []) true), (.sl true 0 0 (.agg []) true), (.sl true 0 0 (.agg []) true)])), none, 2⟩, ⟨none, (.store (some 26) (.t 15) (.t 51)), none, 2⟩, ⟨none, (.store (some 26) (.t 16) (.t 56)), none, 2⟩]
 [])
 (.seq (.reg [⟨(some 58), (.load (some 26) (.t 15)), none, 2⟩, ⟨(some 59), (.call (.c (.fn 17 [])) [(.t 58)]), none, 2⟩, ⟨(some 57), (.mov (.t 59)), none, 2⟩, ⟨(some 60), (.ext (.t 57) 0), none, 2⟩, ⟨(some 61), (.ext (.t 57) 1), none, 2⟩, ⟨(some 17), (.mov (.t 60)), none, 2⟩, ⟨(some 18), (.mov (.t 61)), none, 2⟩]
 [])
 (.seq (.reg [⟨(some 63), (.load (some 26) (.t 16)), none, 2⟩, ⟨(some 64), (.call (.c (.fn 17 [])) [(.t 63)]), none, 2⟩, ⟨(some 62), (.mov (.t 64)), none, 2⟩, ⟨(some 65), (.ext (.t 62) 0), none, 2⟩, ⟨(some 66), (.ext (.t 62) 1), none, 2⟩, ⟨(some 19), (.mov (.t 65)), none, 2⟩, ⟨(some 20), (.mov (.t 66)), none, 2⟩]
 [])
 (.seq (.reg [⟨(some 67), (.mov (.t 1)), none, 2⟩, ⟨(some 68), (.mov (.t 3)), none, 2⟩, ⟨(some 69), (.mov (.t 5)), none, 2⟩, ⟨(some 70), (.call (.c (.fn 34 [])) [(.t 67), (.t 68), (.t 69)]), none, 2⟩, ⟨(some 71), (.mov (.t 2)), none, 2⟩, ⟨(some 72), (.mov (.t 4)), none, 2⟩, ⟨(some 73), (.mov (.t 6)), none, 2⟩, ⟨(some 74), (.call (.c (.fn 34 [])) [(.t 71), (.t 72), (.t 73)]), none, 2⟩, ⟨(some 21), (.alloc (.agg [(.int 0), (.str []), (.sl true 0 0 (.agg []) true), (.u32 0), (.u32 0), (.u32 0), (.u32 0), (.u32 0), (.u32 0), (.u32 0), (.u32 0), (.u32 0), (.u32 0), (.u32 0), (.u32 0), (.u32 0), (.u32 0), (.u32 0), (.u32 0), (.sl true 0 0 (.agg []) true), (.int 0), (.int 0), (.int 0)])), none, 2⟩, ⟨(some 22), (.alloc (.agg [(.int 0), (.str []), (.sl true 0 0 (.agg []) true), (.u32 0), (.u32 0), (.u32 0), (.u32 0), (.u32 0), (.u32 0), (.u32 0), (.u32 0), (.u32 0), (.u32 0), (.u32 0), (.u32 0), (.u32 0), (.u32 0), (.u32 0), (.u32 0), (.sl true 0 0 (.agg []) true), (.int 0), (.int 0), (.int 0)])), none, 2⟩, ⟨none, (.store (some 23) (.t 21) (.t 70)), none, 2⟩, ⟨none, (.store (some 23) (.t 22) (.t 74)), none, 2⟩]
 [])
 (.seq (.reg [⟨(some 76), (.load (some 23) (.t 21)), none, 2⟩, ⟨(some 77), (.call (.c (.fn 35 [])) [(.t 76)]), none, 2⟩, ⟨(some 75), (.mov (.t 77)), none, 2⟩, ⟨(some 78), (.ext (.t 75) 0), none, 2⟩, ⟨(some 79), (.ext (.t 75) 1), none, 2⟩, ⟨(some 23), (.mov (.t 78)), none, 2⟩, ⟨(some 24), (.mov (.t 79)), none, 2⟩]
 [])
 (.seq (.reg [⟨(some 81), (.load (some 23) (.t 22)), none, 2⟩, ⟨(some 82), (.call (.c (.fn 35 [])) [(.t 81)]), none, 2⟩, ⟨(some 80), (.mov (.t 82)), none, 2⟩, ⟨(some 83), (.ext (.t 80) 0), none, 2⟩, ⟨(some 84), (.ext (.t 80) 1), none, 2⟩, ⟨(some 25), (.mov (.t 83)), none, 2⟩, ⟨(some 26), (.mov (.t 84)), none, 2⟩]
 [])
 (.seq (.reg [⟨(some 85), (.mov (.t 18)), none, 0⟩, ⟨(some 86), (.un .not (.t 85)), none, 0⟩, ⟨(some 87), (.mov (.t 86)), none, 0⟩, ⟨(some 88), (.mov (.t 20)), (some (87, false)), 0⟩, ⟨(some 89), (.un .not (.t 88)), (some (87, false)), 0⟩, ⟨(some 90), (.pick (.t 87) (.c (.bool true)) (.t 89)), none, 0⟩, ⟨(some 91), (.mov (.t 90)), none, 0⟩, ⟨(some 92), (.mov (.t 17)), (some (91, false)), 0⟩, ⟨(some 93), (.conv .bstr (.t 92)), (some (91, false)), 1⟩, ⟨(some 94), (.mov (.t 19)), (some (91, false)), 0⟩, ⟨(some 95), (.conv .bstr (.t 94)), (some (91, false)), 1⟩, ⟨(some 96), (.eq false .sc (.t 93) (.t 95)), (some (91, false)), 0⟩, ⟨(some 97), (.load (some 26) (.t 15)), (some (91, false)), 1⟩, ⟨(some 98), (.load (some 26) (.t 16)), (some (91, false)), 1⟩, ⟨(some 99), (.call (.c (.fn 21 [])) [(.t 97), (.t 98)]), (some (91, false)), 0⟩, ⟨(some 100), (.eq false .bool (.t 96) (.t 99)), (some (91, false)), 0⟩, ⟨(some 101), (.pick (.t 91) (.c (.bool true)) (.t 100)), none, 0⟩, ⟨(some 102), (.mov (.t 101)), none, 0⟩, ⟨(some 103), (.mov (.t 23)), (some (102, true)), 0⟩, ⟨(some 104), (.conv .bstr (.t 103)), (some (102, true)), 1⟩, ⟨(some 105), (.mov (.t 25)), (some (102, true)), 0⟩, ⟨(some 106), (.conv .bstr (.t 105)), (some (102, true)), 1⟩, ⟨(some 107), (.eq false .sc (.t 104) (.t 106)), (some (102, true)), 0⟩, ⟨(some 108), (.load (some 23) (.t 21)), (some (102, true)), 1⟩, ⟨(some 109), (.load (some 23) (.t 22)), (some (102, true)), 1⟩, ⟨(some 110), (.call (.c (.fn 38 [])) [(.t 108), (.t 109)]), (some (102, true)), 0⟩, ⟨(some 111), (.eq false .bool (.t 107) (.t 110)), (some (102, true)), 0⟩, ⟨(some 112), (.pick (.t 102) (.t 111) (.c (.bool false))), none, 0⟩, ⟨(some 14), (.mov (.t 112)), none, 0⟩]
 [])
 .ret))))))))))
theorem c13_ok : comp (tiOf Try.prog) mu13 [19, 21, 22, 25, 34, 38, 41, 42, 43, 46, 50, 56, 57, 58, 59, 62, 63, 65, 66, 71, 72, 73, 74, 75, 76] N13 (Try.f13.body.getD .skip) = c13 := by kernel_rfl
theorem b13 : Try.f13.body = some (Try.f13.body.getD .skip) := by kernel_rfl
theorem run13 {Γ : G} (hsp : SpOK Try.prog Γ.sp) {args : List AV} {h : List AO} {own : Bool} {kn : Nat} {K : AV → List AO → Prop} (hl : args.length ≤ N13) (hk0 : Γ.k0 = hlen h) (hkn : hlen h ≤ kn)
    (hrun : run Γ c13 (leafK Γ.sp res13 own kn K) [] (leafK Γ.sp res13 own kn K) (argS 0 args) h) (htn : Γ.tn ≤ N13 := by exact Nat.zero_le _)
    (hrf : ∀ F, rfind Γ.rf F = true → FdIter Try.prog F ∧ ∀ args w, (callFunc F args).run Try.prog w = .ok (.enter F args) w := by exact fun F h => absurd h (show ¬ (false = true) from Bool.false_ne_true)) : ACalls Try.prog 13 args h K :=
  acalls_of_run (tiOf_ok _) hsp follows Try.func13 b13 (rs := Try.f13.results.toList) (Array.toArray_toList).symm (by kernel_rfl) (by kernel_rfl) c13_ok (by kernel_rfl) hl hk0 htn hrf hkn hrun
theorem in13 : ∀ args w, (callFunc 13 args).run Try.prog w = .ok (.enter 13 args) w := callFunc_enter Try.func13 (by kernel_rfl) (by kernel_rfl)

/-- sentinel/sentinellaw5.WireOwn -/
def N14 : Nat := 161
def mu14 : List Nat := []
def keep14 : List Nat := [0, 1, 2, 3, 8, 9, 10, 11, 12, 13, 15, 16, 17, 18, 19, 20, 21, 23, 25, 26, 27, 29, 37, 54, 74, 83, 118]
def res14 : List RV := [(.t 8)]
def c14 : CC :=
 (.seq (.reg [⟨(some 8), (.mov (.c (.bool false))), none, 2⟩]
 [])
 (.seq (.seq (.reg [⟨(some 28), (.call (.c (.fn 15 [])) []), none, 2⟩, ⟨(some 29), (.un .not (.t 28)), none, 2⟩]
 [])
 (.cond (.t 29)
 (.seq (.reg [⟨(some 8), (.mov (.c (.bool false))), none, 2⟩]
 [])
 .ret)
 .skip))
 (.seq (.seq (.reg [⟨(some 30), (.mov (.t 2)), none, 2⟩, ⟨(some 31), (.len true (.t 30)), none, 2⟩, ⟨(some 32), (.bin .gtr (.t 31) (.c (.int 40))), none, 2⟩, ⟨(some 33), (.mov (.t 32)), none, 2⟩, ⟨(some 34), (.mov (.t 3)), (some (33, false)), 2⟩, ⟨(some 35), (.len false (.t 34)), (some (33, false)), 2⟩, ⟨(some 36), (.bin .gtr (.t 35) (.c (.int 100))), (some (33, false)), 2⟩, ⟨(some 37), (.pick (.t 33) (.c (.bool true)) (.t 36)), none, 2⟩]
 [])
 (.cond (.t 37)
 (.seq (.reg [⟨(some 8), (.mov (.c (.bool true))), none, 2⟩]
 [])
 .ret)
 .skip))
 (.seq (.reg [⟨(some 38), (.mov (.t 0)), none, 2⟩, ⟨(some 39), (.mov (.t 1)), none, 2⟩, ⟨(some 40), (.mov (.t 2)), none, 2⟩, ⟨(some 41), (.mov (.t 3)), none, 2⟩, ⟨(some 42), (.call (.c (.fn 16 [])) [(.t 38), (.t 39), (.t 40), (.t 41)]), none, 2⟩, ⟨(some 43), (.mov (.t 0)), none, 2⟩, ⟨(some 44), (.mov (.t 1)), none, 2⟩, ⟨(some 45), (.mov (.t 2)), none, 2⟩, ⟨(some 46), (.mov (.t 3)), none, 2⟩, ⟨(some 47), (.call (.c (.fn 16 [])) [(.t 43), (.t 44), (.t 45), (.t 46)]), none, 2⟩, ⟨(some 9), (.alloc (.agg [(.int 0), (.int 0), (.int 0), (.int 0), (.str []), (.u32 0), (.u32 0), (.u32 0), (.u32 0), (.u32 0), (.u32 0), (.u32 0), (.u32 0), (.u32 0), (.u32 0), (.u32 0), (.u32 0), (.u32 0), (.u32 0), (.u32 0), (.u32 0), (.sl true 0 0 (.agg []) true), (.sl true 0 0 (.agg []) true), (.sl true 0 0 (.agg []) true), (.sl true 0 0 (.agg []) true), (.sl true 0 0 (.agg []) true)])), none, 2⟩, ⟨(some 10), (.alloc (.agg [(.int 0), (.int 0), (.int 0), (.int 0), (.str []), (.u32 0), (.u32 0), (.u32 0), (.u32 0), (.u32 0), (.u32 0), (.u32 0), (.u32 0), (.u32 0), (.u32 0), (.u32 0), (.u32 0), (.u32 0), (.u32 0), (.u32 0), (.u32 0), (.sl true 0 0 (.agg []) true), (.sl true 0 0 (.agg []) true), (.sl true 0 0 (.agg []) true), (.sl true 0 0 (.agg []) true), (.sl true 0 0 (.agg []) true)])), none, 2⟩, ⟨none, (.store (some 26) (.t 9) (.t 42)), none, 2⟩, ⟨none, (.store (some 26) (.t 10) (.t 47)), none, 2⟩]
 [])
 (.seq (.reg [⟨(some 49), (.load (some 26) (.t 9)), none, 2⟩, ⟨(some 50), (.call (.c (.fn 17 [])) [(.t 49)]), none, 2⟩, ⟨(some 48), (.mov (.t 50)), none, 2⟩, ⟨(some 51), (.ext (.t 48) 0), none, 2⟩, ⟨(some 52), (.ext (.t 48) 1), none, 2⟩, ⟨(some 11), (.mov (.t 51)), none, 2⟩, ⟨(some 12), (.mov (.t 52)), none, 2⟩]
 [])
 (.seq (.seq (.reg [⟨(some 53), (.mov (.t 12)), none, 2⟩, ⟨(some 54), (.un .not (.t 53)), none, 2⟩]
 [])
 (.cond (.t 54)
 (.seq (.reg [⟨(some 8), (.mov (.c (.bool true))), none, 2⟩]
 [])
 .ret)
 .skip))
 (.seq (.reg [⟨(some 56), (.mov (.t 11)), none, 2⟩, ⟨(some 57), (.call (.c (.fn 20 [])) [(.t 56)]), none, 2⟩, ⟨(some 55), (.mov (.t 57)), none, 2⟩, ⟨(some 58), (.ext (.t 55) 0), none, 2⟩, ⟨(some 59), (.ext (.t 55) 1), none, 2⟩, ⟨(some 13), (.alloc (.agg [(.int 0), (.int 0), (.int 0), (.int 0), (.str []), (.u32 0), (.u32 0), (.u32 0), (.u32 0), (.u32 0), (.u32 0), (.u32 0), (.u32 0), (.u32 0), (.u32 0), (.u32 0), (.u32 0), (.u32 0), (.u32 0), (.u32 0), (.u32 0), (.sl true 0 0 (.agg []) true), (.sl true 0 0 (.agg []) true), (.sl true 0 0 (.agg []) true), (.sl true 0 0 (.agg []) true), (.sl true 0 0 (.agg []) true)])), none, 2⟩, ⟨none, (.store (some 26) (.t 13) (.t 58)), none, 2⟩, ⟨(some 14), (.mov (.t 59)), none, 2⟩]
 [])
 (.seq (.reg [⟨(some 60), (.fad 21 (.t 13)), none, 2⟩, ⟨(some 61), (.load none (.t 60)), none, 2⟩, ⟨(some 62), (.fad 22 (.t 13)), none, 2⟩, ⟨(some 63), (.load none (.t 62)), none, 2⟩, ⟨(some 64), (.fad 23 (.t 13)), none, 2⟩, ⟨(some 65), (.load none (.t 64)), none, 2⟩, ⟨(some 66), (.fad 24 (.t 13)), none, 2⟩, ⟨(some 67), (.load none (.t 66)), none, 2⟩, ⟨(some 68), (.fad 25 (.t 13)), none, 2⟩, ⟨(some 69), (.load none (.t 68)), none, 2⟩, ⟨(some 70), (.bsl false .other 1 5 [(.sl true 0 0 (.agg []) true)] [(0, (1, (.t 61))), (1, (1, (.t 63))), (2, (1, (.t 65))), (3, (1, (.t 67))), (4, (1, (.t 69)))]), none, 2⟩, ⟨(some 15), (.mov (.t 70)), none, 2⟩]
 [])
 (.seq (.seq (.reg [⟨(some 16), (.mov (.c (.int 0))), none, 2⟩]
 [])
 (.block 0 (.loop (.seq (.seq (.reg [⟨(some 71), (.mov (.t 16)), none, 2⟩, ⟨(some 72), (.mov (.t 15)), none, 2⟩, ⟨(some 73), (.len false (.t 72)), none, 2⟩, ⟨(some 74), (.bin .lss (.t 71) (.t 73)), none, 2⟩]
 [])
 (.cond (.t 74)
 .skip
 (.exit 0)))
 (.seq (.block 1 (.seq (.reg [⟨(some 17), (.mov (.c (.int 0))), none, 2⟩]
 [])
 (.block 2 (.loop (.seq (.seq (.reg [⟨(some 77), (.mov (.t 17)), none, 2⟩, ⟨(some 78), (.mov (.t 15)), none, 2⟩, ⟨(some 79), (.mov (.t 16)), none, 2⟩, ⟨(some 80), (.iadS 1 (.t 78) (.t 79)), none, 2⟩, ⟨(some 81), (.load none (.t 80)), none, 2⟩, ⟨(some 82), (.len false (.t 81)), none, 2⟩, ⟨(some 83), (.bin .lss (.t 77) (.t 82)), none, 2⟩]
 [])
 (.cond (.t 83)
 .skip
 (.exit 2)))
 (.seq (.block 3 (.reg [⟨(some 86), (.mov (.t 15)), none, 2⟩, ⟨(some 87), (.mov (.t 16)), none, 2⟩, ⟨(some 88), (.iadS 1 (.t 86) (.t 87)), none, 2⟩, ⟨(some 89), (.load none (.t 88)), none, 2⟩, ⟨(some 90), (.mov (.t 17)), none, 2⟩, ⟨(some 91), (.iadS 1 (.t 89) (.t 90)), none, 2⟩, ⟨(some 92), (.load none (.t 91)), none, 2⟩, ⟨(some 93), (.bin .add (.t 92) (.c (.u8 1))), none, 2⟩, ⟨(some 94), (.iadS 1 (.t 89) (.t 90)), none, 2⟩, ⟨none, (.store none (.t 94) (.t 93)), none, 2⟩]
 []))
 (.reg [⟨(some 84), (.mov (.t 17)), none, 2⟩, ⟨(some 85), (.bin .add (.t 84) (.c (.int 1))), none, 2⟩, ⟨(some 17), (.mov (.t 85)), none, 2⟩]
 [])))))))
 (.reg [⟨(some 75), (.mov (.t 16)), none, 2⟩, ⟨(some 76), (.bin .add (.t 75) (.c (.int 1))), none, 2⟩, ⟨(some 16), (.mov (.t 76)), none, 2⟩]
 []))))))
 (.seq (.reg [⟨(some 96), (.mov (.t 11)), none, 2⟩, ⟨(some 97), (.call (.c (.fn 20 [])) [(.t 96)]), none, 2⟩, ⟨(some 95), (.mov (.t 97)), none, 2⟩, ⟨(some 98), (.ext (.t 95) 0), none, 2⟩, ⟨(some 99), (.ext (.t 95) 1), none, 2⟩, ⟨(some 18), (.alloc (.agg [(.int 0), (.int 0), (.int 0), (.int 0), (.str []), (.u32 0), (.u32 0), (.u32 0), (.u32 0), (.u32 0), (.u32 0), (.u32 0), (.u32 0), (.u32 0), (.u32 0), (.u32 0), (.u32 0), (.u32 0), (.u32 0), (.u32 0), (.u32 0), (.sl true 0 0 (.agg []) true), (.sl true 0 0 (.agg []) true), (.sl true 0 0 (.agg []) true), (.sl true 0 0 (.agg []) true), (.sl true 0 0 (.agg []) true)])), none, 2⟩, ⟨none, (.store (some 26) (.t 18) (.t 98)), none, 2⟩, ⟨(some 19), (.mov (.t 99)), none, 2⟩]
 [])
 (.seq (.reg [⟨(some 100), (.mov (.t 1)), none, 2⟩, ⟨(some 101), (.mov (.t 2)), none, 2⟩, ⟨(some 102), (.mov (.t 3)), none, 2⟩, ⟨(some 103), (.call (.c (.fn 34 [])) [(.t 100), (.t 101), (.t 102)]), none, 2⟩, ⟨(some 20), (.alloc (.agg [(.int 0), (.str []), (.sl true 0 0 (.agg []) true), (.u32 0), (.u32 0), (.u32 0), (.u32 0), (.u32 0), (.u32 0), (.u32 0), (.u32 0), (.u32 0), (.u32 0), (.u32 0), (.u32 0), (.u32 0), (.u32 0), (.u32 0), (.u32 0), (.sl true 0 0 (.agg []) true), (.int 0), (.int 0), (.int 0)])), none, 2⟩, ⟨none, (.store (some 23) (.t 20) (.t 103)), none, 2⟩]
 [])
 (.seq (.reg [⟨(some 105), (.load (some 23) (.t 20)), none, 2⟩, ⟨(some 106), (.call (.c (.fn 35 [])) [(.t 105)]), none, 2⟩, ⟨(some 104), (.mov (.t 106)), none, 2⟩, ⟨(some 107), (.ext (.t 104) 0), none, 2⟩, ⟨(some 108), (.ext (.t 104) 1), none, 2⟩, ⟨(some 21), (.mov (.t 107)), none, 2⟩, ⟨(some 22), (.mov (.t 108)), none, 2⟩]
 [])
 (.seq (.reg [⟨(some 110), (.mov (.t 21)), none, 2⟩, ⟨(some 111), (.call (.c (.fn 37 [])) [(.t 110)]), none, 2⟩, ⟨(some 109), (.mov (.t 111)), none, 2⟩, ⟨(some 112), (.ext (.t 109) 0), none, 2⟩, ⟨(some 113), (.ext (.t 109) 1), none, 2⟩, ⟨(some 23), (.alloc (.agg [(.int 0), (.str []), (.sl true 0 0 (.agg []) true), (.u32 0), (.u32 0), (.u32 0), (.u32 0), (.u32 0), (.u32 0), (.u32 0), (.u32 0), (.u32 0), (.u32 0), (.u32 0), (.u32 0), (.u32 0), (.u32 0), (.u32 0), (.u32 0), (.sl true 0 0 (.agg []) true), (.int 0), (.int 0), (.int 0)])), none, 2⟩, ⟨none, (.store (some 23) (.t 23) (.t 112)), none, 2⟩, ⟨(some 24), (.mov (.t 113)), none, 2⟩]
 [])
 (.seq (.seq (.reg [⟨(some 25), (.mov (.c (.int 0))), none, 2⟩]
 [])
 (.block 4 (.loop (.seq (.seq (.reg [⟨(some 114), (.mov (.t 25)), none, 2⟩, ⟨(some 115), (.fad 2 (.t 23)), none, 2⟩, ⟨(some 116), (.load none (.t 115)), none, 2⟩, ⟨(some 117), (.len false (.t 116)), none, 2⟩, ⟨(some 118), (.bin .lss (.t 114) (.t 117)), none, 2⟩]
 [])
 (.cond (.t 118)
 .skip
 (.exit 4)))
 (.seq (.block 5 (.reg [⟨(some 121), (.fad 2 (.t 23)), none, 2⟩, ⟨(some 122), (.load none (.t 121)), none, 2⟩, ⟨(some 123), (.mov (.t 25)), none, 2⟩, ⟨(some 124), (.iadS 1 (.t 122) (.t 123)), none, 2⟩, ⟨(some 125), (.load none (.t 124)), none, 2⟩, ⟨(some 126), (.bin .add (.t 125) (.c (.u8 1))), none, 2⟩, ⟨(some 127), (.iadS 1 (.t 122) (.t 123)), none, 2⟩, ⟨none, (.store none (.t 127) (.t 126)), none, 2⟩]
 []))
 (.reg [⟨(some 119), (.mov (.t 25)), none, 2⟩, ⟨(some 120), (.bin .add (.t 119) (.c (.int 1))), none, 2⟩, ⟨(some 25), (.mov (.t 120)), none, 2⟩]
 []))))))
 (.seq (.reg [⟨(some 129), (.mov (.t 21)), none, 2⟩, ⟨(some 130), (.call (.c (.fn 37 [])) [(.t 129)]), none, 2⟩, ⟨(some 128), (.mov (.t 130)), none, 2⟩, ⟨(some 131), (.ext (.t 128) 0), none, 2⟩, ⟨(some 132), (.ext (.t 128) 1), none, 2⟩, ⟨(some 26), (.alloc (.agg [(.int 0), (.str []), (.sl true 0 0 (.agg []) true), (.u32 0), (.u32 0), (.u32 0), (.u32 0), (.u32 0), (.u32 0), (.u32 0), (.u32 0), (.u32 0), (.u32 0), (.u32 0), (.u32 0), (.u32 0), (.u32 0), (.u32 0), (.u32 0), (.sl true 0 0 (.agg []) true), (.int 0), (.int 0), (.int 0)])), none, 2⟩, ⟨none, (.store (some 23) (.t 26) (.t 131)), none, 2⟩, ⟨(some 27), (.mov (.t 132)), none, 2⟩]
 [])
 (.seq (.reg [⟨(some 133), (.load (some 26) (.t 9)), none, 1⟩, ⟨(some 134), (.load (some 26) (.t 10)), none, 1⟩, ⟨(some 135), (.call (.c (.fn 21 [])) [(.t 133), (.t 134)]), none, 0⟩, ⟨(some 136), (.mov (.t 135)), none, 0⟩, ⟨(some 137), (.mov (.t 19)), (some (136, true)), 0⟩, ⟨(some 138), (.pick (.t 136) (.t 137) (.c (.bool false))), none, 0⟩, ⟨(some 139), (.mov (.t 138)), none, 0⟩, ⟨(some 140), (.load (some 26) (.t 18)), (some (139, true)), 1⟩, ⟨(some 141), (.load (some 26) (.t 10)), (some (139, true)), 1⟩, ⟨(some 142), (.call (.c (.fn 21 [])) [(.t 140), (.t 141)]), (some (139, true)), 0⟩, ⟨(some 143), (.pick (.t 139) (.t 142) (.c (.bool false))), none, 0⟩, ⟨(some 144), (.mov (.t 143)), none, 0⟩, ⟨(some 145), (.mov (.t 27)), (some (144, true)), 0⟩, ⟨(some 146), (.pick (.t 144) (.t 145) (.c (.bool false))), none, 0⟩, ⟨(some 147), (.mov (.t 146)), none, 0⟩, ⟨(some 148), (.load (some 23) (.t 26)), (some (147, true)), 1⟩, ⟨(some 149), (.mov (.t 1)), (some (147, true)), 0⟩, ⟨(some 150), (.mov (.t 2)), (some (147, true)), 0⟩, ⟨(some 151), (.mov (.t 3)), (some (147, true)), 0⟩, ⟨(some 152), (.call (.c (.fn 34 [])) [(.t 149), (.t 150), (.t 151)]), (some (147, true)), 0⟩, ⟨(some 153), (.call (.c (.fn 38 [])) [(.t 148), (.t 152)]), (some (147, true)), 0⟩, ⟨(some 154), (.pick (.t 147) (.t 153) (.c (.bool false))), none, 0⟩, ⟨(some 155), (.mov (.t 154)), none, 0⟩, ⟨(some 156), (.fad 3 (.t 20)), (some (155, true)), 0⟩, ⟨(some 157), (.load (some 8) (.t 156)), (some (155, true)), 1⟩, ⟨(some 158), (.call (.c (.fn 41 [])) [(.t 157)]), (some (155, true)), 0⟩, ⟨(some 159), (.bin .leq (.t 158) (.c (.int 32))), (some (155, true)), 0⟩, ⟨(some 160), (.pick (.t 155) (.t 159) (.c (.bool false))), none, 0⟩, ⟨(some 8), (.mov (.t 160)), none, 0⟩]
 [])
 .ret))))))))))))))))
theorem c14_ok : comp (tiOf Try.prog) mu14 [19, 21, 22, 25, 34, 38, 41, 42, 43, 46, 50, 56, 57, 58, 59, 62, 63, 65, 66, 71, 72, 73, 74, 75, 76] N14 (Try.f14.body.getD .skip) = c14 := by kernel_rfl
theorem b14 : Try.f14.body = some (Try.f14.body.getD .skip) := by kernel_rfl
theorem run14 {Γ : G} (hsp : SpOK Try.prog Γ.sp) {args : List AV} {h : List AO} {own : Bool} {kn : Nat} {K : AV → List AO → Prop} (hl : args.length ≤ N14) (hk0 : Γ.k0 = hlen h) (hkn : hlen h ≤ kn)
    (hrun : run Γ c14 (leafK Γ.sp res14 own kn K) [] (leafK Γ.sp res14 own kn K) (argS 0 args) h) (htn : Γ.tn ≤ N14 := by exact Nat.zero_le _)
    (hrf : ∀ F, rfind Γ.rf F = true → FdIter Try.prog F ∧ ∀ args w, (callFunc F args).run Try.prog w = .ok (.enter F args) w := by exact fun F h => absurd h (show ¬ (false = true) from Bool.false_ne_true)) : ACalls Try.prog 14 args h K :=
  acalls_of_run (tiOf_ok _) hsp follows Try.func14 b14 (rs := Try.f14.results.toList) (Array.toArray_toList).symm (by kernel_rfl) (by kernel_rfl) c14_ok (by kernel_rfl) hl hk0 htn hrf hkn hrun
theorem in14 : ∀ args w, (callFunc 14 args).run Try.prog w = .ok (.enter 14 args) w := callFunc_enter Try.func14 (by kernel_rfl) (by kernel_rfl)

/-- sentinel/sentinellaw5.known -/
def N15 : Nat := 100
def mu15 : List Nat := []
def keep15 : List Nat := [0, 1, 2, 3, 5, 6, 7, 8, 9, 10, 11, 19]
def res15 : List RV := [(.t 0)]
def c15 : CC :=
 (.seq (.reg [⟨(some 0), (.mov (.c (.bool false))), none, 2⟩]
 [])
 (.seq (.reg [⟨(some 13), (.build [(.int 0), (.int 0), (.int 0), (.int 0), (.str []), (.u32 0), (.u32 0), (.u32 0), (.u32 0), (.u32 0), (.u32 0), (.u32 0), (.u32 0), (.u32 0), (.u32 0), (.u32 0), (.u32 0), (.u32 0), (.u32 0), (.u32 0), (.u32 0), (.sl true 0 0 (.agg []) true), (.sl true 0 0 (.agg []) true), (.sl true 0 0 (.agg []) true), (.sl true 0 0 (.agg []) true), (.sl true 0 0 (.agg []) true)] [(0, (1, (.c (.int 7))))]), none, 2⟩, ⟨(some 14), (.call (.c (.fn 17 [])) [(.t 13)]), none, 2⟩, ⟨(some 12), (.mov (.t 14)), none, 2⟩, ⟨(some 15), (.ext (.t 12) 0), none, 2⟩, ⟨(some 16), (.ext (.t 12) 1), none, 2⟩, ⟨(some 1), (.mov (.t 15)), none, 2⟩, ⟨(some 2), (.mov (.t 16)), none, 2⟩]
 [])
 (.seq (.reg [⟨(some 17), (.call (.c (.fn 26 [])) []), none, 2⟩, ⟨(some 3), (.mov (.t 17)), none, 2⟩]
 [])
 (.seq (.seq (.reg [⟨(some 18), (.mov (.t 3)), none, 2⟩, ⟨(some 19), (.eq false .ptr (.t 18) (.c .nilp)), none, 2⟩]
 [])
 (.cond (.t 19)
 (.seq (.reg [⟨(some 0), (.mov (.c (.bool false))), none, 2⟩]
 [])
 .ret)
 .skip))
 (.seq (.reg [⟨(some 20), (.mov (.t 3)), none, 2⟩, ⟨(some 21), (.mov (.t 1)), none, 2⟩, ⟨(some 22), (.mov (.t 1)), none, 2⟩, ⟨(some 23), (.len false (.t 22)), none, 2⟩, ⟨(some 24), (.mn (.c (.int 1)) (.t 23)), none, 2⟩, ⟨(some 25), (.slcS 1 (.t 21) none (some (.t 24)) none), none, 2⟩, ⟨(some 26), (.call (.c (.fn 28 [])) [(.t 20), (.t 25)]), none, 2⟩]
 [])
 (.seq (.reg [⟨(some 28), (.mov (.t 3)), none, 2⟩, ⟨(some 29), (.call (.c (.fn 30 [])) [(.t 28)]), none, 2⟩, ⟨(some 27), (.mov (.t 29)), none, 2⟩, ⟨(some 30), (.ext (.t 27) 0), none, 2⟩, ⟨(some 31), (.ext (.t 27) 1), none, 2⟩, ⟨(some 4), (.alloc (.agg [(.int 0), (.int 0), (.int 0), (.int 0), (.str []), (.u32 0), (.u32 0), (.u32 0), (.u32 0), (.u32 0), (.u32 0), (.u32 0), (.u32 0), (.u32 0), (.u32 0), (.u32 0), (.u32 0), (.u32 0), (.u32 0), (.u32 0), (.u32 0), (.sl true 0 0 (.agg []) true), (.sl true 0 0 (.agg []) true), (.sl true 0 0 (.agg []) true), (.sl true 0 0 (.agg []) true), (.sl true 0 0 (.agg []) true)])), none, 2⟩, ⟨none, (.store (some 26) (.t 4) (.t 30)), none, 2⟩, ⟨(some 5), (.mov (.t 31)), none, 2⟩]
 [])
 (.seq (.reg [⟨(some 32), (.mov (.t 3)), none, 2⟩, ⟨(some 33), (.mov (.t 1)), none, 2⟩, ⟨(some 34), (.mov (.t 1)), none, 2⟩, ⟨(some 35), (.len false (.t 34)), none, 2⟩, ⟨(some 36), (.mn (.c (.int 1)) (.t 35)), none, 2⟩, ⟨(some 37), (.slcS 1 (.t 33) (some (.t 36)) none none), none, 2⟩, ⟨(some 38), (.call (.c (.fn 28 [])) [(.t 32), (.t 37)]), none, 2⟩]
 [])
 (.seq (.reg [⟨(some 40), (.mov (.t 3)), none, 2⟩, ⟨(some 41), (.call (.c (.fn 30 [])) [(.t 40)]), none, 2⟩, ⟨(some 39), (.mov (.t 41)), none, 2⟩, ⟨(some 42), (.ext (.t 39) 0), none, 2⟩, ⟨(some 43), (.ext (.t 39) 1), none, 2⟩, ⟨(some 6), (.alloc (.agg [(.int 0), (.int 0), (.int 0), (.int 0), (.str []), (.u32 0), (.u32 0), (.u32 0), (.u32 0), (.u32 0), (.u32 0), (.u32 0), (.u32 0), (.u32 0), (.u32 0), (.u32 0), (.u32 0), (.u32 0), (.u32 0), (.u32 0), (.u32 0), (.sl true 0 0 (.agg []) true), (.sl true 0 0 (.agg []) true), (.sl true 0 0 (.agg []) true), (.sl true 0 0 (.agg []) true), (.sl true 0 0 (.agg []) true)])), none, 2⟩, ⟨none, (.store (some 26) (.t 6) (.t 42)), none, 2⟩, ⟨(some 7), (.mov (.t 43)), none, 2⟩]
 [])
 (.seq (.reg [⟨(some 45), (.build [(.int 0), (.str []), (.sl true 0 0 (.agg []) true), (.u32 0), (.u32 0), (.u32 0), (.u32 0), (.u32 0), (.u32 0), (.u32 0), (.u32 0), (.u32 0), (.u32 0), (.u32 0), (.u32 0), (.u32 0), (.u32 0), (.u32 0), (.u32 0), (.sl true 0 0 (.agg []) true), (.int 0), (.int 0), (.int 0)] [(0, (1, (.c (.int 1)))), (1, (1, (.c (.str [97]))))]), none, 2⟩, ⟨(some 46), (.call (.c (.fn 35 [])) [(.t 45)]), none, 2⟩, ⟨(some 44), (.mov (.t 46)), none, 2⟩, ⟨(some 47), (.ext (.t 44) 0), none, 2⟩, ⟨(some 48), (.ext (.t 44) 1), none, 2⟩, ⟨(some 8), (.mov (.t 47)), none, 2⟩, ⟨(some 9), (.mov (.t 48)), none, 2⟩]
 [])
 (.seq (.reg [⟨(some 50), (.mov (.t 8)), none, 2⟩, ⟨(some 51), (.call (.c (.fn 37 [])) [(.t 50)]), none, 2⟩, ⟨(some 49), (.mov (.t 51)), none, 2⟩, ⟨(some 52), (.ext (.t 49) 0), none, 2⟩, ⟨(some 53), (.ext (.t 49) 1), none, 2⟩, ⟨(some 10), (.alloc (.agg [(.int 0), (.str []), (.sl true 0 0 (.agg []) true), (.u32 0), (.u32 0), (.u32 0), (.u32 0), (.u32 0), (.u32 0), (.u32 0), (.u32 0), (.u32 0), (.u32 0), (.u32 0), (.u32 0), (.u32 0), (.u32 0), (.u32 0), (.u32 0), (.sl true 0 0 (.agg []) true), (.int 0), (.int 0), (.int 0)])), none, 2⟩, ⟨none, (.store (some 23) (.t 10) (.t 52)), none, 2⟩, ⟨(some 11), (.mov (.t 53)), none, 2⟩]
 [])
 (.seq (.reg [⟨(some 54), (.mov (.t 2)), none, 2⟩, ⟨(some 55), (.mov (.t 54)), none, 2⟩, ⟨(some 56), (.mov (.t 1)), (some (55, true)), 2⟩, ⟨(some 57), (.len false (.t 56)), (some (55, true)), 2⟩, ⟨(some 58), (.eq false .sc (.t 57) (.c (.int 3))), (some (55, true)), 2⟩, ⟨(some 59), (.pick (.t 55) (.t 58) (.c (.bool false))), none, 2⟩, ⟨(some 60), (.mov (.t 59)), none, 2⟩, ⟨(some 61), (.mov (.t 1)), (some (60, true)), 2⟩, ⟨(some 62), (.iadS 1 (.t 61) (.c (.int 1))), (some (60, true)), 2⟩, ⟨(some 63), (.load none (.t 62)), (some (60, true)), 2⟩, ⟨(some 64), (.eq false .sc (.t 63) (.c (.u8 1))), (some (60, true)), 2⟩, ⟨(some 65), (.pick (.t 60) (.t 64) (.c (.bool false))), none, 2⟩, ⟨(some 66), (.mov (.t 65)), none, 2⟩, ⟨(some 67), (.mov (.t 1)), (some (66, true)), 2⟩, ⟨(some 68), (.iadS 1 (.t 67) (.c (.int 2))), (some (66, true)), 2⟩, ⟨(some 69), (.load none (.t 68)), (some (66, true)), 2⟩, ⟨(some 70), (.eq false .sc (.t 69) (.c (.u8 7))), (some (66, true)), 2⟩, ⟨(some 71), (.pick (.t 66) (.t 70) (.c (.bool false))), none, 2⟩, ⟨(some 72), (.mov (.t 71)), none, 2⟩, ⟨(some 73), (.mov (.t 5)), (some (72, true)), 2⟩, ⟨(some 74), (.un .not (.t 73)), (some (72, true)), 2⟩, ⟨(some 75), (.pick (.t 72) (.t 74) (.c (.bool false))), none, 2⟩, ⟨(some 76), (.mov (.t 75)), none, 2⟩, ⟨(some 77), (.mov (.t 7)), (some (76, true)), 2⟩, ⟨(some 78), (.pick (.t 76) (.t 77) (.c (.bool false))), none, 2⟩, ⟨(some 79), (.mov (.t 78)), none, 2⟩, ⟨(some 80), (.fad 0 (.t 6)), (some (79, true)), 2⟩, ⟨(some 81), (.load none (.t 80)), (some (79, true)), 2⟩, ⟨(some 82), (.eq false .sc (.t 81) (.c (.int 7))), (some (79, true)), 2⟩, ⟨(some 83), (.pick (.t 79) (.t 82) (.c (.bool false))), none, 2⟩, ⟨(some 84), (.mov (.t 83)), none, 2⟩, ⟨(some 85), (.mov (.t 3)), (some (84, true)), 2⟩, ⟨(some 86), (.call (.c (.fn 32 [])) [(.t 85)]), (some (84, true)), 2⟩, ⟨(some 87), (.un .not (.t 86)), (some (84, true)), 2⟩, ⟨(some 88), (.pick (.t 84) (.t 87) (.c (.bool false))), none, 2⟩, ⟨(some 89), (.mov (.t 88)), none, 2⟩, ⟨(some 90), (.mov (.t 9)), (some (89, true)), 2⟩, ⟨(some 91), (.pick (.t 89) (.t 90) (.c (.bool false))), none, 2⟩, ⟨(some 92), (.mov (.t 91)), none, 2⟩, ⟨(some 93), (.mov (.t 11)), (some (92, true)), 2⟩, ⟨(some 94), (.pick (.t 92) (.t 93) (.c (.bool false))), none, 2⟩, ⟨(some 95), (.mov (.t 94)), none, 2⟩, ⟨(some 96), (.fad 1 (.t 10)), (some (95, true)), 2⟩, ⟨(some 97), (.load none (.t 96)), (some (95, true)), 2⟩, ⟨(some 98), (.eq false .sc (.t 97) (.c (.str [97]))), (some (95, true)), 2⟩, ⟨(some 99), (.pick (.t 95) (.t 98) (.c (.bool false))), none, 2⟩, ⟨(some 0), (.mov (.t 99)), none, 2⟩]
 [])
 .ret)))))))))))
theorem c15_ok : comp (tiOf Try.prog) mu15 [19, 21, 22, 25, 34, 38, 41, 42, 43, 46, 50, 56, 57, 58, 59, 62, 63, 65, 66, 71, 72, 73, 74, 75, 76] N15 (Try.f15.body.getD .skip) = c15 := by kernel_rfl
theorem b15 : Try.f15.body = some (Try.f15.body.getD .skip) := by kernel_rfl
theorem run15 {Γ : G} (hsp : SpOK Try.prog Γ.sp) {args : List AV} {h : List AO} {own : Bool} {kn : Nat} {K : AV → List AO → Prop} (hl : args.length ≤ N15) (hk0 : Γ.k0 = hlen h) (hkn : hlen h ≤ kn)
    (hrun : run Γ c15 (leafK Γ.sp res15 own kn K) [] (leafK Γ.sp res15 own kn K) (argS 0 args) h) (htn : Γ.tn ≤ N15 := by exact Nat.zero_le _)
    (hrf : ∀ F, rfind Γ.rf F = true → FdIter Try.prog F ∧ ∀ args w, (callFunc F args).run Try.prog w = .ok (.enter F args) w := by exact fun F h => absurd h (show ¬ (false = true) from Bool.false_ne_true)) : ACalls Try.prog 15 args h K :=
  acalls_of_run (tiOf_ok _) hsp follows Try.func15 b15 (rs := Try.f15.results.toList) (Array.toArray_toList).symm (by kernel_rfl) (by kernel_rfl) c15_ok (by kernel_rfl) hl hk0 htn hrf hkn hrun
theorem in15 : ∀ args w, (callFunc 15 args).run Try.prog w = .ok (.enter 15 args) w := callFunc_enter Try.func15 (by kernel_rfl) (by kernel_rfl)

/-- sentinel/sentinellaw5.Make -/
def N16 : Nat := 132
def mu16 : List Nat := []
def keep16 : List Nat := [0, 1, 2, 3, 8, 9, 10, 11, 12, 30, 31, 41, 44, 51, 62, 68, 77, 83, 89, 100, 111, 118]
def res16 : List RV := [(.c 8 (some 26))]
def c16 : CC :=
 (.seq (.reg [⟨(some 8), (.alloc (.agg [(.int 0), (.int 0), (.int 0), (.int 0), (.str []), (.u32 0), (.u32 0), (.u32 0), (.u32 0), (.u32 0), (.u32 0), (.u32 0), (.u32 0), (.u32 0), (.u32 0), (.u32 0), (.u32 0), (.u32 0), (.u32 0), (.u32 0), (.u32 0), (.sl true 0 0 (.agg []) true), (.sl true 0 0 (.agg []) true), (.sl true 0 0 (.agg []) true), (.sl true 0 0 (.agg []) true), (.sl true 0 0 (.agg []) true)])), none, 2⟩]
 [])
 (.seq (.reg [⟨(some 13), (.mov (.t 0)), none, 2⟩, ⟨(some 14), (.call (.c (.fn 22 [])) [(.t 13), (.c (.int 12))]), none, 2⟩, ⟨(some 15), (.bin .add (.c (.int 1)) (.t 14)), none, 2⟩, ⟨(some 16), (.build [(.int 0), (.int 0), (.int 0), (.int 0), (.str []), (.u32 0), (.u32 0), (.u32 0), (.u32 0), (.u32 0), (.u32 0), (.u32 0), (.u32 0), (.u32 0), (.u32 0), (.u32 0), (.u32 0), (.u32 0), (.u32 0), (.u32 0), (.u32 0), (.sl true 0 0 (.agg []) true), (.sl true 0 0 (.agg []) true), (.sl true 0 0 (.agg []) true), (.sl true 0 0 (.agg []) true), (.sl true 0 0 (.agg []) true)] [(0, (1, (.t 15)))]), none, 2⟩, ⟨(some 9), (.alloc (.agg [(.int 0), (.int 0), (.int 0), (.int 0), (.str []), (.u32 0), (.u32 0), (.u32 0), (.u32 0), (.u32 0), (.u32 0), (.u32 0), (.u32 0), (.u32 0), (.u32 0), (.u32 0), (.u32 0), (.u32 0), (.u32 0), (.u32 0), (.u32 0), (.sl true 0 0 (.agg []) true), (.sl true 0 0 (.agg []) true), (.sl true 0 0 (.agg []) true), (.sl true 0 0 (.agg []) true), (.sl true 0 0 (.agg []) true)])), none, 2⟩, ⟨none, (.store (some 26) (.t 9) (.t 16)), none, 2⟩]
 [])
 (.seq (.reg [⟨(some 17), (.mov (.t 1)), none, 2⟩, ⟨(some 18), (.call (.c (.fn 22 [])) [(.t 17), (.c (.int 2))]), none, 2⟩, ⟨(some 19), (.bin .add (.c (.int 1)) (.t 18)), none, 2⟩, ⟨(some 10), (.mov (.t 19)), none, 2⟩]
 [])
 (.seq (.reg [⟨(some 20), (.mov (.t 1)), none, 2⟩, ⟨(some 21), (.call (.c (.fn 22 [])) [(.t 20), (.c (.int 4294967295))]), none, 2⟩, ⟨(some 22), (.bin .add (.c (.int 1)) (.t 21)), none, 2⟩, ⟨(some 23), (.call (.c (.fn 24 [])) [(.t 22)]), none, 2⟩, ⟨(some 11), (.alloc (.agg [(.u32 0), (.u32 0), (.u32 0), (.u32 0), (.u32 0), (.u32 0), (.u32 0), (.u32 0)])), none, 2⟩, ⟨none, (.store (some 8) (.t 11) (.t 23)), none, 2⟩]
 [])
 (.seq (.reg [⟨(some 24), (.mov (.t 1)), none, 2⟩, ⟨(some 25), (.bin .quo (.t 24) (.c (.int 3))), none, 2⟩, ⟨(some 26), (.call (.c (.fn 22 [])) [(.t 25), (.c (.int 70000))]), none, 2⟩, ⟨(some 27), (.bin .add (.c (.int 1)) (.t 26)), none, 2⟩, ⟨(some 28), (.call (.c (.fn 24 [])) [(.t 27)]), none, 2⟩, ⟨(some 12), (.alloc (.agg [(.u32 0), (.u32 0), (.u32 0), (.u32 0), (.u32 0), (.u32 0), (.u32 0), (.u32 0)])), none, 2⟩, ⟨none, (.store (some 8) (.t 12) (.t 28)), none, 2⟩]
 [])
 (.seq (.seq (.reg [⟨(some 29), (.fad 0 (.t 9)), none, 2⟩, ⟨(some 30), (.load none (.t 29)), none, 2⟩]
 [])
 (.block 0 (.seq (.reg [⟨(some 32), (.eq false .sc (.t 30) (.c (.int 1))), none, 2⟩, ⟨(some 31), (.mov (.t 32)), none, 2⟩]
 [])
 (.cond (.t 31)
 (.seq (.reg [⟨(some 33), (.mov (.t 10)), none, 0⟩, ⟨(some 34), (.mov (.t 2)), none, 0⟩, ⟨(some 35), (.call (.c (.fn 42 [])) [(.t 34)]), none, 0⟩, ⟨(some 36), (.load (some 8) (.t 11)), none, 1⟩, ⟨(some 37), (.fad 1 (.t 9)), none, 0⟩, ⟨none, (.store none (.t 37) (.t 33)), none, 2⟩, ⟨(some 38), (.fad 4 (.t 9)), none, 0⟩, ⟨none, (.store none (.t 38) (.t 35)), none, 2⟩, ⟨(some 39), (.fad 5 (.t 9)), none, 0⟩, ⟨none, (.store (some 8) (.t 39) (.t 36)), none, 2⟩]
 [(11, 37), (11, 38)])
 (.seq (.reg [⟨(some 40), (.mov (.t 10)), none, 2⟩, ⟨(some 41), (.eq false .sc (.t 40) (.c (.int 2))), none, 2⟩]
 [])
 (.cond (.t 41)
 (.reg [⟨(some 42), (.load (some 8) (.t 12)), none, 2⟩, ⟨(some 43), (.fad 13 (.t 9)), none, 2⟩, ⟨none, (.store (some 8) (.t 43) (.t 42)), none, 2⟩]
 [])
 .skip)))
 (.seq (.reg [⟨(some 45), (.eq false .sc (.t 30) (.c (.int 2))), none, 2⟩, ⟨(some 44), (.mov (.t 45)), none, 2⟩]
 [])
 (.cond (.t 44)
 (.seq (.reg [⟨(some 46), (.mov (.t 10)), none, 0⟩, ⟨(some 47), (.load (some 8) (.t 11)), none, 1⟩, ⟨(some 48), (.fad 1 (.t 9)), none, 0⟩, ⟨none, (.store none (.t 48) (.t 46)), none, 2⟩, ⟨(some 49), (.fad 13 (.t 9)), none, 0⟩, ⟨none, (.store (some 8) (.t 49) (.t 47)), none, 2⟩]
 [(11, 48)])
 (.seq (.reg [⟨(some 50), (.mov (.t 10)), none, 2⟩, ⟨(some 51), (.eq false .sc (.t 50) (.c (.int 2))), none, 2⟩]
 [])
 (.cond (.t 51)
 (.reg [⟨(some 52), (.load (some 8) (.t 12)), none, 1⟩, ⟨(some 53), (.mov (.t 3)), none, 0⟩, ⟨(some 54), (.mov (.t 1)), none, 0⟩, ⟨(some 55), (.call (.c (.fn 43 [])) [(.t 53), (.t 54), (.c (.int 48))]), none, 0⟩, ⟨(some 56), (.fad 5 (.t 9)), none, 0⟩, ⟨none, (.store (some 8) (.t 56) (.t 52)), none, 2⟩, ⟨(some 57), (.fad 22 (.t 9)), none, 0⟩, ⟨none, (.store none (.t 57) (.t 55)), none, 2⟩]
 [])
 (.reg [⟨(some 58), (.mov (.t 3)), none, 2⟩, ⟨(some 59), (.mov (.t 1)), none, 2⟩, ⟨(some 60), (.call (.c (.fn 43 [])) [(.t 58), (.t 59), (.c (.int 16))]), none, 2⟩, ⟨(some 61), (.fad 21 (.t 9)), none, 2⟩, ⟨none, (.store none (.t 61) (.t 60)), none, 2⟩]
 []))))
 (.seq (.reg [⟨(some 63), (.eq false .sc (.t 30) (.c (.int 3))), none, 2⟩, ⟨(some 62), (.mov (.t 63)), none, 2⟩]
 [])
 (.cond (.t 62)
 (.reg [⟨(some 64), (.mov (.t 3)), none, 2⟩, ⟨(some 65), (.mov (.t 1)), none, 2⟩, ⟨(some 66), (.call (.c (.fn 43 [])) [(.t 64), (.t 65), (.c (.int 16))]), none, 2⟩, ⟨(some 67), (.fad 23 (.t 9)), none, 2⟩, ⟨none, (.store none (.t 67) (.t 66)), none, 2⟩]
 [])
 (.seq (.reg [⟨(some 69), (.eq false .sc (.t 30) (.c (.int 4))), none, 2⟩, ⟨(some 68), (.mov (.t 69)), none, 2⟩]
 [])
 (.cond (.t 68)
 (.seq (.reg [⟨(some 70), (.mov (.t 3)), none, 2⟩, ⟨(some 71), (.mov (.t 1)), none, 2⟩, ⟨(some 72), (.call (.c (.fn 43 [])) [(.t 70), (.t 71), (.c (.int 80))]), none, 2⟩, ⟨(some 73), (.fad 24 (.t 9)), none, 2⟩, ⟨none, (.store none (.t 73) (.t 72)), none, 2⟩]
 [])
 (.seq (.reg [⟨(some 74), (.mov (.t 1)), none, 2⟩, ⟨(some 75), (.bin .quo (.t 74) (.c (.int 2))), none, 2⟩, ⟨(some 76), (.call (.c (.fn 22 [])) [(.t 75), (.c (.int 2))]), none, 2⟩, ⟨(some 77), (.eq false .sc (.t 76) (.c (.int 0))), none, 2⟩]
 [])
 (.cond (.t 77)
 (.reg [⟨(some 78), (.mov (.t 3)), none, 2⟩, ⟨(some 79), (.mov (.t 1)), none, 2⟩, ⟨(some 80), (.bin .quo (.t 79) (.c (.int 7))), none, 2⟩, ⟨(some 81), (.call (.c (.fn 43 [])) [(.t 78), (.t 80), (.c (.int 16))]), none, 2⟩, ⟨(some 82), (.fad 23 (.t 9)), none, 2⟩, ⟨none, (.store none (.t 82) (.t 81)), none, 2⟩]
 [])
 .skip)))
 (.seq (.reg [⟨(some 84), (.eq false .sc (.t 30) (.c (.int 5))), none, 2⟩, ⟨(some 83), (.mov (.t 84)), none, 2⟩]
 [])
 (.cond (.t 83)
 (.reg [⟨(some 85), (.mov (.t 1)), none, 2⟩, ⟨(some 86), (.call (.c (.fn 22 [])) [(.t 85), (.c (.int 11))]), none, 2⟩, ⟨(some 87), (.bin .add (.c (.int 1)) (.t 86)), none, 2⟩, ⟨(some 88), (.fad 3 (.t 9)), none, 2⟩, ⟨none, (.store none (.t 88) (.t 87)), none, 2⟩]
 [])
 (.seq (.reg [⟨(some 90), (.eq false .sc (.t 30) (.c (.int 6))), none, 2⟩, ⟨(some 89), (.mov (.t 90)), none, 2⟩]
 [])
 (.cond (.t 89)
 (.reg [⟨(some 91), (.mov (.t 10)), none, 2⟩, ⟨(some 92), (.mov (.t 2)), none, 2⟩, ⟨(some 93), (.call (.c (.fn 42 [])) [(.t 92)]), none, 2⟩, ⟨(some 94), (.mov (.t 3)), none, 2⟩, ⟨(some 95), (.mov (.t 1)), none, 2⟩, ⟨(some 96), (.call (.c (.fn 43 [])) [(.t 94), (.t 95), (.c (.int 120))]), none, 2⟩, ⟨(some 97), (.fad 1 (.t 9)), none, 2⟩, ⟨none, (.store none (.t 97) (.t 91)), none, 2⟩, ⟨(some 98), (.fad 4 (.t 9)), none, 2⟩, ⟨none, (.store none (.t 98) (.t 93)), none, 2⟩, ⟨(some 99), (.fad 25 (.t 9)), none, 2⟩, ⟨none, (.store none (.t 99) (.t 96)), none, 2⟩]
 [])
 (.seq (.seq (.reg [⟨(some 101), (.eq false .sc (.t 30) (.c (.int 8))), none, 2⟩, ⟨(some 100), (.mov (.t 101)), none, 2⟩]
 [])
 (.cond (.t 100)
 .skip
 (.reg [⟨(some 102), (.eq false .sc (.t 30) (.c (.int 12))), none, 2⟩, ⟨(some 100), (.mov (.t 102)), none, 2⟩]
 [])))
 (.cond (.t 100)
 (.reg [⟨(some 103), (.mov (.t 3)), none, 2⟩, ⟨(some 104), (.mov (.t 1)), none, 2⟩, ⟨(some 105), (.call (.c (.fn 43 [])) [(.t 103), (.t 104), (.c (.int 80))]), none, 2⟩, ⟨(some 106), (.mov (.t 1)), none, 2⟩, ⟨(some 107), (.call (.c (.fn 22 [])) [(.t 106), (.c (.int 1099511627776))]), none, 2⟩, ⟨(some 108), (.bin .add (.c (.int 1)) (.t 107)), none, 2⟩, ⟨(some 109), (.fad 24 (.t 9)), none, 2⟩, ⟨none, (.store none (.t 109) (.t 105)), none, 2⟩, ⟨(some 110), (.fad 2 (.t 9)), none, 2⟩, ⟨none, (.store none (.t 110) (.t 108)), none, 2⟩]
 [])
 (.seq (.seq (.reg [⟨(some 112), (.eq false .sc (.t 30) (.c (.int 9))), none, 2⟩, ⟨(some 111), (.mov (.t 112)), none, 2⟩]
 [])
 (.cond (.t 111)
 .skip
 (.reg [⟨(some 113), (.eq false .sc (.t 30) (.c (.int 10))), none, 2⟩, ⟨(some 111), (.mov (.t 113)), none, 2⟩]
 [])))
 (.cond (.t 111)
 (.reg [⟨(some 114), (.mov (.t 3)), none, 2⟩, ⟨(some 115), (.mov (.t 1)), none, 2⟩, ⟨(some 116), (.call (.c (.fn 43 [])) [(.t 114), (.t 115), (.c (.int 80))]), none, 2⟩, ⟨(some 117), (.fad 24 (.t 9)), none, 2⟩, ⟨none, (.store none (.t 117) (.t 116)), none, 2⟩]
 [])
 (.seq (.reg [⟨(some 119), (.eq false .sc (.t 30) (.c (.int 11))), none, 2⟩, ⟨(some 118), (.mov (.t 119)), none, 2⟩]
 [])
 (.cond (.t 118)
 (.reg [⟨(some 120), (.mov (.t 10)), none, 2⟩, ⟨(some 121), (.mov (.t 3)), none, 2⟩, ⟨(some 122), (.mov (.t 1)), none, 2⟩, ⟨(some 123), (.call (.c (.fn 43 [])) [(.t 121), (.t 122), (.c (.int 80))]), none, 2⟩, ⟨(some 124), (.mov (.t 3)), none, 2⟩, ⟨(some 125), (.mov (.t 1)), none, 2⟩, ⟨(some 126), (.bin .quo (.t 125) (.c (.int 5))), none, 2⟩, ⟨(some 127), (.call (.c (.fn 43 [])) [(.t 124), (.t 126), (.c (.int 110))]), none, 2⟩, ⟨(some 128), (.fad 1 (.t 9)), none, 2⟩, ⟨none, (.store none (.t 128) (.t 120)), none, 2⟩, ⟨(some 129), (.fad 24 (.t 9)), none, 2⟩, ⟨none, (.store none (.t 129) (.t 123)), none, 2⟩, ⟨(some 130), (.fad 25 (.t 9)), none, 2⟩, ⟨none, (.store none (.t 130) (.t 127)), none, 2⟩]
 [])
 .skip))))))))))))))))))))
 (.seq (.reg [⟨(some 131), (.load (some 26) (.t 9)), none, 2⟩, ⟨none, (.store (some 26) (.t 8) (.t 131)), none, 2⟩]
 [])
 .ret)))))))
theorem c16_ok : comp (tiOf Try.prog) mu16 [19, 21, 22, 25, 34, 38, 41, 42, 43, 46, 50, 56, 57, 58, 59, 62, 63, 65, 66, 71, 72, 73, 74, 75, 76] N16 (Try.f16.body.getD .skip) = c16 := by kernel_rfl
theorem b16 : Try.f16.body = some (Try.f16.body.getD .skip) := by kernel_rfl
theorem run16 {Γ : G} (hsp : SpOK Try.prog Γ.sp) {args : List AV} {h : List AO} {own : Bool} {kn : Nat} {K : AV → List AO → Prop} (hl : args.length ≤ N16) (hk0 : Γ.k0 = hlen h) (hkn : hlen h ≤ kn)
    (hrun : run Γ c16 (leafK Γ.sp res16 own kn K) [] (leafK Γ.sp res16 own kn K) (argS 0 args) h) (htn : Γ.tn ≤ N16 := by exact Nat.zero_le _)
    (hrf : ∀ F, rfind Γ.rf F = true → FdIter Try.prog F ∧ ∀ args w, (callFunc F args).run Try.prog w = .ok (.enter F args) w := by exact fun F h => absurd h (show ¬ (false = true) from Bool.false_ne_true)) : ACalls Try.prog 16 args h K :=
  acalls_of_run (tiOf_ok _) hsp follows Try.func16 b16 (rs := Try.f16.results.toList) (Array.toArray_toList).symm (by kernel_rfl) (by kernel_rfl) c16_ok (by kernel_rfl) hl hk0 htn hrf hkn hrun
theorem in16 : ∀ args w, (callFunc 16 args).run Try.prog w = .ok (.enter 16 args) w := callFunc_enter Try.func16 (by kernel_rfl) (by kernel_rfl)

/-- sentinel/wire.Encode -/
def N17 : Nat := 47
def mu17 : List Nat := [12]
def keep17 : List Nat := [0, 1, 2, 3, 4, 5, 8, 14, 15, 19, 35]
def res17 : List RV := [(.t 2), (.t 3)]
def c17 : CC :=
 (.seq (.reg [⟨(some 1), (.box (.t 0)), none, 2⟩, ⟨(some 2), (.mov (.c (.sl true 0 0 (.agg []) true))), none, 2⟩, ⟨(some 3), (.mov (.c (.bool false))), none, 2⟩]
 [])
 (.seq (.seq (.reg [⟨(some 6), (.load (some 26) (.t 1)), none, 2⟩, ⟨(some 7), (.call (.c (.fn 19 [])) [(.t 6)]), none, 2⟩, ⟨(some 8), (.un .not (.t 7)), none, 2⟩]
 [])
 (.cond (.t 8)
 (.seq (.reg [⟨(some 2), (.mov (.c (.sl true 0 0 (.agg []) true))), none, 2⟩, ⟨(some 3), (.mov (.c (.bool false))), none, 2⟩]
 [])
 .ret)
 .skip))
 (.seq (.reg [⟨(some 9), (.fad 0 (.t 1)), none, 2⟩, ⟨(some 10), (.load none (.t 9)), none, 2⟩, ⟨(some 11), (.conv .iu8 (.t 10)), none, 2⟩, ⟨(some 12), (.bsl true .u8 1 1 [(.u8 0)] [(0, (1, (.t 11)))]), none, 2⟩, ⟨(some 4), (.alloc (.agg [(.sl true 0 0 (.agg []) true)])), none, 2⟩, ⟨none, (.store none (.t 4) (.t 12)), none, 2⟩]
 [])
 (.seq (.seq (.reg [⟨(some 13), (.load (some 26) (.t 1)), none, 2⟩, ⟨(some 14), (.call (.c (.fn 44 [])) [(.t 13)]), none, 2⟩]
 [])
 (.block 0 (.rangeF (.t 14) [15] (.reg [⟨(some 5), (.alloc (.agg [(.int 0), (.sl true 0 0 (.agg []) true), (.bool false)])), none, 2⟩, ⟨none, (.store (some 3) (.t 5) (.t 15)), none, 2⟩]
 []) (.block 1 (.seq (.reg [⟨(some 16), (.fad 1 (.t 5)), none, 2⟩, ⟨(some 17), (.load none (.t 16)), none, 2⟩, ⟨(some 18), (.len false (.t 17)), none, 2⟩, ⟨(some 19), (.bin .gtr (.t 18) (.c (.int 0))), none, 2⟩]
 [])
 (.cond (.t 19)
 (.reg [⟨(some 20), (.load none (.t 4)), none, 1⟩, ⟨(some 21), (.fad 0 (.t 5)), none, 0⟩, ⟨(some 22), (.load none (.t 21)), none, 1⟩, ⟨(some 23), (.conv .iu8 (.t 22)), none, 0⟩, ⟨(some 24), (.fad 1 (.t 5)), none, 0⟩, ⟨(some 25), (.load none (.t 24)), none, 1⟩, ⟨(some 26), (.len false (.t 25)), none, 0⟩, ⟨(some 27), (.conv .iu8 (.t 26)), none, 0⟩, ⟨(some 28), (.bsl false .u8 1 2 [(.u8 0)] [(0, (1, (.t 23))), (1, (1, (.t 27)))]), none, 0⟩, ⟨(some 29), (.app true 1 1 (.t 20) (.t 28)), none, 2⟩, ⟨(some 30), (.fad 1 (.t 5)), none, 0⟩, ⟨(some 31), (.load none (.t 30)), none, 1⟩, ⟨(some 32), (.app true 1 1 (.t 29) (.t 31)), none, 2⟩, ⟨none, (.store none (.t 4) (.t 32)), none, 2⟩]
 [(30, 20)])
 .skip))))))
 (.seq (.seq (.reg [⟨(some 33), (.load none (.t 4)), none, 2⟩, ⟨(some 34), (.len false (.t 33)), none, 2⟩, ⟨(some 35), (.bin .gtr (.t 34) (.c (.int 200))), none, 2⟩]
 [])
 (.cond (.t 35)
 (.seq (.reg [⟨(some 2), (.mov (.c (.sl true 0 0 (.agg []) true))), none, 2⟩, ⟨(some 3), (.mov (.c (.bool false))), none, 2⟩]
 [])
 .ret)
 .skip))
 (.seq (.reg [⟨(some 36), (.load none (.t 4)), none, 2⟩, ⟨(some 37), (.len false (.t 36)), none, 2⟩, ⟨(some 38), (.bin .shr (.t 37) (.c (.u64 8))), none, 2⟩, ⟨(some 39), (.conv .iu8 (.t 38)), none, 2⟩, ⟨(some 40), (.load none (.t 4)), none, 2⟩, ⟨(some 41), (.len false (.t 40)), none, 2⟩, ⟨(some 42), (.conv .iu8 (.t 41)), none, 2⟩, ⟨(some 43), (.bsl false .u8 1 2 [(.u8 0)] [(0, (1, (.t 39))), (1, (1, (.t 42)))]), none, 2⟩, ⟨(some 44), (.load none (.t 4)), none, 2⟩, ⟨(some 45), (.bsl false .other 1 2 [(.sl true 0 0 (.agg []) true)] [(0, (1, (.t 43))), (1, (1, (.t 44)))]), none, 2⟩, ⟨(some 46), (.call (.c (.fn 45 [])) [(.t 45)]), none, 2⟩, ⟨(some 2), (.mov (.t 46)), none, 2⟩, ⟨(some 3), (.mov (.c (.bool true))), none, 2⟩]
 [])
 .ret))))))
theorem c17_ok : comp (tiOf Try.prog) mu17 [19, 21, 22, 25, 34, 38, 41, 42, 43, 46, 50, 56, 57, 58, 59, 62, 63, 65, 66, 71, 72, 73, 74, 75, 76] N17 (Try.f17.body.getD .skip) = c17 := by kernel_rfl
theorem b17 : Try.f17.body = some (Try.f17.body.getD .skip) := by kernel_rfl
theorem run17 {Γ : G} (hsp : SpOK Try.prog Γ.sp) {args : List AV} {h : List AO} {own : Bool} {kn : Nat} {K : AV → List AO → Prop} (hl : args.length ≤ N17) (hk0 : Γ.k0 = hlen h) (hkn : hlen h ≤ kn)
    (hrun : run Γ c17 (leafK Γ.sp res17 own kn K) [] (leafK Γ.sp res17 own kn K) (argS 0 args) h) (htn : Γ.tn ≤ N17 := by exact Nat.zero_le _)
    (hrf : ∀ F, rfind Γ.rf F = true → FdIter Try.prog F ∧ ∀ args w, (callFunc F args).run Try.prog w = .ok (.enter F args) w := by exact fun F h => absurd h (show ¬ (false = true) from Bool.false_ne_true)) : ACalls Try.prog 17 args h K :=
  acalls_of_run (tiOf_ok _) hsp follows Try.func17 b17 (rs := Try.f17.results.toList) (Array.toArray_toList).symm (by kernel_rfl) (by kernel_rfl) c17_ok (by kernel_rfl) hl hk0 htn hrf hkn hrun
theorem in17 : ∀ args w, (callFunc 17 args).run Try.prog w = .ok (.enter 17 args) w := callFunc_enter Try.func17 (by kernel_rfl) (by kernel_rfl)

/-- sentinel/sentinelref5.Encode -/
def N18 : Nat := 43
def mu18 : List Nat := [12]
def keep18 : List Nat := [0, 1, 2, 3, 4, 5, 8, 14, 23, 32]
def res18 : List RV := [(.t 2), (.t 3)]
def c18 : CC :=
 (.seq (.reg [⟨(some 1), (.box (.t 0)), none, 2⟩, ⟨(some 2), (.mov (.c (.sl true 0 0 (.agg []) true))), none, 2⟩, ⟨(some 3), (.mov (.c (.bool false))), none, 2⟩]
 [])
 (.seq (.seq (.reg [⟨(some 6), (.load (some 26) (.t 1)), none, 2⟩, ⟨(some 7), (.call (.c (.fn 25 [])) [(.t 6)]), none, 2⟩, ⟨(some 8), (.un .not (.t 7)), none, 2⟩]
 [])
 (.cond (.t 8)
 (.seq (.reg [⟨(some 2), (.mov (.c (.sl true 0 0 (.agg []) true))), none, 2⟩, ⟨(some 3), (.mov (.c (.bool false))), none, 2⟩]
 [])
 .ret)
 .skip))
 (.seq (.reg [⟨(some 9), (.fad 0 (.t 1)), none, 2⟩, ⟨(some 10), (.load none (.t 9)), none, 2⟩, ⟨(some 11), (.conv .iu8 (.t 10)), none, 2⟩, ⟨(some 12), (.bsl true .u8 1 1 [(.u8 0)] [(0, (1, (.t 11)))]), none, 2⟩, ⟨(some 4), (.mov (.t 12)), none, 2⟩]
 [])
 (.seq (.seq (.reg [⟨(some 5), (.mov (.c (.int 1))), none, 2⟩]
 [])
 (.block 0 (.loop (.seq (.seq (.reg [⟨(some 13), (.mov (.t 5)), none, 2⟩, ⟨(some 14), (.bin .leq (.t 13) (.c (.int 11))), none, 2⟩]
 [])
 (.cond (.t 14)
 .skip
 (.exit 0)))
 (.seq (.block 1 (.seq (.reg [⟨(some 17), (.load (some 26) (.t 1)), none, 2⟩, ⟨(some 18), (.call (.c (.fn 46 [])) [(.t 17)]), none, 2⟩, ⟨(some 19), (.mov (.t 5)), none, 2⟩, ⟨(some 20), (.conv .iu64 (.t 19)), none, 2⟩, ⟨(some 21), (.bin .shr (.t 18) (.t 20)), none, 2⟩, ⟨(some 22), (.bin .and (.t 21) (.c (.int 1))), none, 2⟩, ⟨(some 23), (.bin .gtr (.t 22) (.c (.int 0))), none, 2⟩]
 [])
 (.cond (.t 23)
 (.reg [⟨(some 24), (.mov (.t 4)), none, 2⟩, ⟨(some 25), (.mov (.t 5)), none, 2⟩, ⟨(some 26), (.load (some 26) (.t 1)), none, 2⟩, ⟨(some 27), (.mov (.t 5)), none, 2⟩, ⟨(some 28), (.call (.c (.fn 48 [])) [(.t 26), (.t 27)]), none, 2⟩, ⟨(some 29), (.call (.c (.fn 47 [])) [(.t 24), (.t 25), (.t 28)]), none, 2⟩, ⟨(some 4), (.mov (.t 29)), none, 2⟩]
 [])
 .skip)))
 (.reg [⟨(some 15), (.mov (.t 5)), none, 2⟩, ⟨(some 16), (.bin .add (.t 15) (.c (.int 1))), none, 2⟩, ⟨(some 5), (.mov (.t 16)), none, 2⟩]
 []))))))
 (.seq (.seq (.reg [⟨(some 30), (.mov (.t 4)), none, 2⟩, ⟨(some 31), (.len false (.t 30)), none, 2⟩, ⟨(some 32), (.bin .gtr (.t 31) (.c (.int 200))), none, 2⟩]
 [])
 (.cond (.t 32)
 (.seq (.reg [⟨(some 2), (.mov (.c (.sl true 0 0 (.agg []) true))), none, 2⟩, ⟨(some 3), (.mov (.c (.bool false))), none, 2⟩]
 [])
 .ret)
 .skip))
 (.seq (.reg [⟨(some 33), (.mov (.t 4)), none, 2⟩, ⟨(some 34), (.len false (.t 33)), none, 2⟩, ⟨(some 35), (.bin .shr (.t 34) (.c (.u64 8))), none, 2⟩, ⟨(some 36), (.conv .iu8 (.t 35)), none, 2⟩, ⟨(some 37), (.mov (.t 4)), none, 2⟩, ⟨(some 38), (.len false (.t 37)), none, 2⟩, ⟨(some 39), (.conv .iu8 (.t 38)), none, 2⟩, ⟨(some 40), (.bsl false .u8 1 2 [(.u8 0)] [(0, (1, (.t 36))), (1, (1, (.t 39)))]), none, 2⟩, ⟨(some 41), (.mov (.t 4)), none, 2⟩, ⟨(some 42), (.app true 1 1 (.t 40) (.t 41)), none, 2⟩, ⟨(some 2), (.mov (.t 42)), none, 2⟩, ⟨(some 3), (.mov (.c (.bool true))), none, 2⟩]
 [])
 .ret))))))
theorem c18_ok : comp (tiOf Try.prog) mu18 [19, 21, 22, 25, 34, 38, 41, 42, 43, 46, 50, 56, 57, 58, 59, 62, 63, 65, 66, 71, 72, 73, 74, 75, 76] N18 (Try.f18.body.getD .skip) = c18 := by kernel_rfl
theorem b18 : Try.f18.body = some (Try.f18.body.getD .skip) := by kernel_rfl
theorem run18 {Γ : G} (hsp : SpOK Try.prog Γ.sp) {args : List AV} {h : List AO} {own : Bool} {kn : Nat} {K : AV → List AO → Prop} (hl : args.length ≤ N18) (hk0 : Γ.k0 = hlen h) (hkn : hlen h ≤ kn)
    (hrun : run Γ c18 (leafK Γ.sp res18 own kn K) [] (leafK Γ.sp res18 own kn K) (argS 0 args) h) (htn : Γ.tn ≤ N18 := by exact Nat.zero_le _)
    (hrf : ∀ F, rfind Γ.rf F = true → FdIter Try.prog F ∧ ∀ args w, (callFunc F args).run Try.prog w = .ok (.enter F args) w := by exact fun F h => absurd h (show ¬ (false = true) from Bool.false_ne_true)) : ACalls Try.prog 18 args h K :=
  acalls_of_run (tiOf_ok _) hsp follows Try.func18 b18 (rs := Try.f18.results.toList) (Array.toArray_toList).symm (by kernel_rfl) (by kernel_rfl) c18_ok (by kernel_rfl) hl hk0 htn hrf hkn hrun
theorem in18 : ∀ args w, (callFunc 18 args).run Try.prog w = .ok (.enter 18 args) w := callFunc_enter Try.func18 (by kernel_rfl) (by kernel_rfl)

/-- sentinel/wire.Right -/
def N19 : Nat := 32
def mu19 : List Nat := []
def keep19 : List Nat := [0, 1, 2, 3, 4, 12, 16, 17, 31]
def res19 : List RV := [(.c 2 none)]
def c19 : CC :=
 (.seq (.reg [⟨(some 1), (.box (.t 0)), none, 2⟩, ⟨(some 2), (.alloc (.agg [(.bool false)])), none, 2⟩]
 [])
 (.seq (.seq (.reg [⟨(some 5), (.fad 0 (.t 1)), none, 2⟩, ⟨(some 6), (.load none (.t 5)), none, 2⟩, ⟨(some 7), (.bin .lss (.t 6) (.c (.int 1))), none, 2⟩, ⟨(some 8), (.mov (.t 7)), none, 2⟩, ⟨(some 9), (.fad 0 (.t 1)), (some (8, false)), 2⟩, ⟨(some 10), (.load none (.t 9)), (some (8, false)), 2⟩, ⟨(some 11), (.bin .gtr (.t 10) (.c (.int 12))), (some (8, false)), 2⟩, ⟨(some 12), (.pick (.t 8) (.c (.bool true)) (.t 11)), none, 2⟩]
 [])
 (.cond (.t 12)
 (.seq (.reg [⟨none, (.store none (.t 2) (.c (.bool false))), none, 2⟩]
 [])
 .ret)
 .skip))
 (.seq (.reg [⟨(some 13), (.load (some 26) (.t 1)), none, 2⟩, ⟨(some 14), (.call (.c (.fn 49 [])) [(.t 13)]), none, 2⟩, ⟨(some 3), (.alloc (.agg [(.sl true 0 0 (.agg []) true)])), none, 2⟩, ⟨none, (.store none (.t 3) (.t 14)), none, 2⟩]
 [])
 (.seq (.seq (.reg [⟨(some 15), (.load (some 26) (.t 1)), none, 2⟩, ⟨(some 16), (.call (.c (.fn 44 [])) [(.t 15)]), none, 2⟩]
 [])
 (.block 0 (.rangeF (.t 16) [17] (.reg [⟨(some 4), (.alloc (.agg [(.int 0), (.sl true 0 0 (.agg []) true), (.bool false)])), none, 2⟩, ⟨none, (.store (some 3) (.t 4) (.t 17)), none, 2⟩]
 []) (.block 1 (.seq (.reg [⟨(some 18), (.fad 2 (.t 4)), none, 0⟩, ⟨(some 19), (.load none (.t 18)), none, 1⟩, ⟨(some 20), (.un .not (.t 19)), none, 0⟩, ⟨(some 21), (.mov (.t 20)), none, 0⟩, ⟨(some 22), (.fad 1 (.t 4)), (some (21, false)), 0⟩, ⟨(some 23), (.load none (.t 22)), (some (21, false)), 1⟩, ⟨(some 24), (.len false (.t 23)), (some (21, false)), 0⟩, ⟨(some 25), (.bin .gtr (.t 24) (.c (.int 0))), (some (21, false)), 0⟩, ⟨(some 26), (.load none (.t 3)), (some (21, false)), 1⟩, ⟨(some 27), (.fad 0 (.t 4)), (some (21, false)), 0⟩, ⟨(some 28), (.load none (.t 27)), (some (21, false)), 1⟩, ⟨(some 29), (.call (.c (.fn 50 [])) [(.t 26), (.t 28)]), (some (21, false)), 0⟩, ⟨(some 30), (.eq true .bool (.t 25) (.t 29)), (some (21, false)), 0⟩, ⟨(some 31), (.pick (.t 21) (.c (.bool true)) (.t 30)), none, 0⟩]
 [])
 (.cond (.t 31)
 (.seq (.reg [⟨none, (.store none (.t 2) (.c (.bool false))), none, 2⟩]
 [])
 .ret)
 .skip))))))
 (.seq (.reg [⟨none, (.store none (.t 2) (.c (.bool true))), none, 2⟩]
 [])
 .ret)))))
theorem c19_ok : comp (tiOf Try.prog) mu19 [19, 21, 22, 25, 34, 38, 41, 42, 43, 46, 50, 56, 57, 58, 59, 62, 63, 65, 66, 71, 72, 73, 74, 75, 76] N19 (Try.f19.body.getD .skip) = c19 := by kernel_rfl
theorem b19 : Try.f19.body = some (Try.f19.body.getD .skip) := by kernel_rfl
theorem run19 {Γ : G} (hsp : SpOK Try.prog Γ.sp) {args : List AV} {h : List AO} {own : Bool} {kn : Nat} {K : AV → List AO → Prop} (hl : args.length ≤ N19) (hk0 : Γ.k0 = hlen h) (hkn : hlen h ≤ kn)
    (hrun : run Γ c19 (leafK Γ.sp res19 own kn K) [] (leafK Γ.sp res19 own kn K) (argS 0 args) h) (htn : Γ.tn ≤ N19 := by exact Nat.zero_le _)
    (hrf : ∀ F, rfind Γ.rf F = true → FdIter Try.prog F ∧ ∀ args w, (callFunc F args).run Try.prog w = .ok (.enter F args) w := by exact fun F h => absurd h (show ¬ (false = true) from Bool.false_ne_true)) : ACalls Try.prog 19 args h K :=
  acalls_of_run (tiOf_ok _) hsp follows Try.func19 b19 (rs := Try.f19.results.toList) (Array.toArray_toList).symm (by kernel_rfl) (by kernel_rfl) c19_ok (by kernel_rfl) hl hk0 htn hrf hkn hrun
theorem in19 : ∀ args w, (callFunc 19 args).run Try.prog w = .ok (.enter 19 args) w := callFunc_enter Try.func19 (by kernel_rfl) (by kernel_rfl)

/-- sentinel/wire.Decode -/
def N20 : Nat := 53
def mu20 : List Nat := []
def keep20 : List Nat := [0, 2, 3, 4, 5, 6, 7, 8, 29, 36, 50]
def res20 : List RV := [(.c 2 (some 26)), (.t 3)]
def c20 : CC :=
 (.seq (.reg [⟨(some 2), (.alloc (.agg [(.int 0), (.int 0), (.int 0), (.int 0), (.str []), (.u32 0), (.u32 0), (.u32 0), (.u32 0), (.u32 0), (.u32 0), (.u32 0), (.u32 0), (.u32 0), (.u32 0), (.u32 0), (.u32 0), (.u32 0), (.u32 0), (.u32 0), (.u32 0), (.sl true 0 0 (.agg []) true), (.sl true 0 0 (.agg []) true), (.sl true 0 0 (.agg []) true), (.sl true 0 0 (.agg []) true), (.sl true 0 0 (.agg []) true)])), none, 2⟩, ⟨(some 3), (.mov (.c (.bool false))), none, 2⟩]
 [])
 (.seq (.reg [⟨(some 9), (.mov (.t 0)), none, 2⟩, ⟨(some 10), (.build [(.sl true 0 0 (.agg []) true), (.bool false)] [(0, (1, (.t 9)))]), none, 2⟩, ⟨(some 11), (.box (.t 10)), none, 2⟩, ⟨(some 4), (.mov (.t 11)), none, 2⟩]
 [])
 (.seq (.reg [⟨(some 12), (.mov (.t 4)), none, 2⟩, ⟨(some 13), (.call (.c (.fn 51 [])) [(.t 12), (.c (.int 2))]), none, 2⟩]
 [])
 (.seq (.reg [⟨(some 14), (.mov (.t 4)), none, 2⟩, ⟨(some 15), (.call (.c (.fn 52 [])) [(.t 14), (.c (.int 1))]), none, 2⟩, ⟨(some 16), (.build [(.int 0), (.int 0), (.int 0), (.int 0), (.str []), (.u32 0), (.u32 0), (.u32 0), (.u32 0), (.u32 0), (.u32 0), (.u32 0), (.u32 0), (.u32 0), (.u32 0), (.u32 0), (.u32 0), (.u32 0), (.u32 0), (.u32 0), (.u32 0), (.sl true 0 0 (.agg []) true), (.sl true 0 0 (.agg []) true), (.sl true 0 0 (.agg []) true), (.sl true 0 0 (.agg []) true), (.sl true 0 0 (.agg []) true)] [(0, (1, (.t 15)))]), none, 2⟩, ⟨(some 5), (.alloc (.agg [(.int 0), (.int 0), (.int 0), (.int 0), (.str []), (.u32 0), (.u32 0), (.u32 0), (.u32 0), (.u32 0), (.u32 0), (.u32 0), (.u32 0), (.u32 0), (.u32 0), (.u32 0), (.u32 0), (.u32 0), (.u32 0), (.u32 0), (.u32 0), (.sl true 0 0 (.agg []) true), (.sl true 0 0 (.agg []) true), (.sl true 0 0 (.agg []) true), (.sl true 0 0 (.agg []) true), (.sl true 0 0 (.agg []) true)])), none, 2⟩, ⟨none, (.store (some 26) (.t 5) (.t 16)), none, 2⟩]
 [])
 (.seq (.block 0 (.loop (.seq (.seq (.reg [⟨(some 17), (.mov (.t 4)), none, 2⟩, ⟨(some 18), (.nilck (.t 17)), none, 2⟩, ⟨(some 19), (.fad 1 (.t 18)), none, 2⟩, ⟨(some 20), (.load none (.t 19)), none, 2⟩, ⟨(some 21), (.un .not (.t 20)), none, 2⟩, ⟨(some 22), (.mov (.t 21)), none, 2⟩, ⟨(some 23), (.mov (.t 4)), (some (22, true)), 2⟩, ⟨(some 24), (.nilck (.t 23)), (some (22, true)), 2⟩, ⟨(some 25), (.fad 0 (.t 24)), (some (22, true)), 2⟩, ⟨(some 26), (.load none (.t 25)), (some (22, true)), 2⟩, ⟨(some 27), (.len false (.t 26)), (some (22, true)), 2⟩, ⟨(some 28), (.bin .gtr (.t 27) (.c (.int 0))), (some (22, true)), 2⟩, ⟨(some 29), (.pick (.t 22) (.t 28) (.c (.bool false))), none, 2⟩]
 [])
 (.cond (.t 29)
 .skip
 (.exit 0)))
 (.block 1 (.seq (.reg [⟨(some 30), (.mov (.t 4)), none, 2⟩, ⟨(some 31), (.call (.c (.fn 52 [])) [(.t 30), (.c (.int 1))]), none, 2⟩, ⟨(some 6), (.mov (.t 31)), none, 2⟩]
 [])
 (.seq (.reg [⟨(some 32), (.mov (.t 6)), none, 2⟩, ⟨(some 33), (.mov (.t 4)), none, 2⟩, ⟨(some 34), (.call (.c (.fn 54 [])) [(.t 33)]), none, 2⟩, ⟨(some 35), (.call (.c (.fn 53 [])) [(.t 5), (.t 32), (.t 34)]), none, 2⟩, ⟨(some 36), (.un .not (.t 35)), none, 2⟩]
 [])
 (.cond (.t 36)
 (.seq (.reg [⟨(some 37), (.build [(.int 0), (.int 0), (.int 0), (.int 0), (.str []), (.u32 0), (.u32 0), (.u32 0), (.u32 0), (.u32 0), (.u32 0), (.u32 0), (.u32 0), (.u32 0), (.u32 0), (.u32 0), (.u32 0), (.u32 0), (.u32 0), (.u32 0), (.u32 0), (.sl true 0 0 (.agg []) true), (.sl true 0 0 (.agg []) true), (.sl true 0 0 (.agg []) true), (.sl true 0 0 (.agg []) true), (.sl true 0 0 (.agg []) true)] []), none, 2⟩, ⟨none, (.store (some 26) (.t 2) (.t 37)), none, 2⟩, ⟨(some 3), (.mov (.c (.bool false))), none, 2⟩]
 [])
 .ret)
 .skip)))))))
 (.seq (.reg [⟨(some 39), (.load (some 26) (.t 5)), none, 2⟩, ⟨(some 40), (.call (.c (.fn 17 [])) [(.t 39)]), none, 2⟩, ⟨(some 38), (.mov (.t 40)), none, 2⟩, ⟨(some 41), (.ext (.t 38) 0), none, 2⟩, ⟨(some 42), (.ext (.t 38) 1), none, 2⟩, ⟨(some 7), (.mov (.t 41)), none, 2⟩, ⟨(some 8), (.mov (.t 42)), none, 2⟩]
 [])
 (.seq (.seq (.reg [⟨(some 43), (.mov (.t 8)), none, 2⟩, ⟨(some 44), (.un .not (.t 43)), none, 2⟩, ⟨(some 45), (.mov (.t 44)), none, 2⟩, ⟨(some 46), (.mov (.t 7)), (some (45, false)), 2⟩, ⟨(some 47), (.mov (.t 0)), (some (45, false)), 2⟩, ⟨(some 48), (.call (.c (.fn 55 [])) [(.t 46), (.t 47)]), (some (45, false)), 2⟩, ⟨(some 49), (.un .not (.t 48)), (some (45, false)), 2⟩, ⟨(some 50), (.pick (.t 45) (.c (.bool true)) (.t 49)), none, 2⟩]
 [])
 (.cond (.t 50)
 (.seq (.reg [⟨(some 51), (.build [(.int 0), (.int 0), (.int 0), (.int 0), (.str []), (.u32 0), (.u32 0), (.u32 0), (.u32 0), (.u32 0), (.u32 0), (.u32 0), (.u32 0), (.u32 0), (.u32 0), (.u32 0), (.u32 0), (.u32 0), (.u32 0), (.u32 0), (.u32 0), (.sl true 0 0 (.agg []) true), (.sl true 0 0 (.agg []) true), (.sl true 0 0 (.agg []) true), (.sl true 0 0 (.agg []) true), (.sl true 0 0 (.agg []) true)] []), none, 2⟩, ⟨none, (.store (some 26) (.t 2) (.t 51)), none, 2⟩, ⟨(some 3), (.mov (.c (.bool false))), none, 2⟩]
 [])
 .ret)
 .skip))
 (.seq (.reg [⟨(some 52), (.load (some 26) (.t 5)), none, 2⟩, ⟨none, (.store (some 26) (.t 2) (.t 52)), none, 2⟩, ⟨(some 3), (.mov (.c (.bool true))), none, 2⟩]
 [])
 .ret))))))))
theorem c20_ok : comp (tiOf Try.prog) mu20 [19, 21, 22, 25, 34, 38, 41, 42, 43, 46, 50, 56, 57, 58, 59, 62, 63, 65, 66, 71, 72, 73, 74, 75, 76] N20 (Try.f20.body.getD .skip) = c20 := by kernel_rfl
theorem b20 : Try.f20.body = some (Try.f20.body.getD .skip) := by kernel_rfl
theorem run20 {Γ : G} (hsp : SpOK Try.prog Γ.sp) {args : List AV} {h : List AO} {own : Bool} {kn : Nat} {K : AV → List AO → Prop} (hl : args.length ≤ N20) (hk0 : Γ.k0 = hlen h) (hkn : hlen h ≤ kn)
    (hrun : run Γ c20 (leafK Γ.sp res20 own kn K) [] (leafK Γ.sp res20 own kn K) (argS 0 args) h) (htn : Γ.tn ≤ N20 := by exact Nat.zero_le _)
    (hrf : ∀ F, rfind Γ.rf F = true → FdIter Try.prog F ∧ ∀ args w, (callFunc F args).run Try.prog w = .ok (.enter F args) w := by exact fun F h => absurd h (show ¬ (false = true) from Bool.false_ne_true)) : ACalls Try.prog 20 args h K :=
  acalls_of_run (tiOf_ok _) hsp follows Try.func20 b20 (rs := Try.f20.results.toList) (Array.toArray_toList).symm (by kernel_rfl) (by kernel_rfl) c20_ok (by kernel_rfl) hl hk0 htn hrf hkn hrun
theorem in20 : ∀ args w, (callFunc 20 args).run Try.prog w = .ok (.enter 20 args) w := callFunc_enter Try.func20 (by kernel_rfl) (by kernel_rfl)

/-- sentinel/sentinelref5.Msgs -/
def N21 : Nat := 97
def mu21 : List Nat := []
def keep21 : List Nat := [0, 1, 2, 3, 4]
def res21 : List RV := [(.t 4)]
def c21 : CC :=
 (.seq (.reg [⟨(some 2), (.box (.t 0)), none, 2⟩, ⟨(some 3), (.box (.t 1)), none, 2⟩, ⟨(some 4), (.mov (.c (.bool false))), none, 2⟩]
 [])
 (.seq (.reg [⟨(some 5), (.fad 0 (.t 2)), none, 2⟩, ⟨(some 6), (.load none (.t 5)), none, 2⟩, ⟨(some 7), (.fad 0 (.t 3)), none, 2⟩, ⟨(some 8), (.load none (.t 7)), none, 2⟩, ⟨(some 9), (.eq false .sc (.t 6) (.t 8)), none, 2⟩, ⟨(some 10), (.mov (.t 9)), none, 2⟩, ⟨(some 11), (.fad 1 (.t 2)), (some (10, true)), 2⟩, ⟨(some 12), (.load none (.t 11)), (some (10, true)), 2⟩, ⟨(some 13), (.fad 1 (.t 3)), (some (10, true)), 2⟩, ⟨(some 14), (.load none (.t 13)), (some (10, true)), 2⟩, ⟨(some 15), (.eq false .sc (.t 12) (.t 14)), (some (10, true)), 2⟩, ⟨(some 16), (.pick (.t 10) (.t 15) (.c (.bool false))), none, 2⟩, ⟨(some 17), (.mov (.t 16)), none, 2⟩, ⟨(some 18), (.fad 2 (.t 2)), (some (17, true)), 2⟩, ⟨(some 19), (.load none (.t 18)), (some (17, true)), 2⟩, ⟨(some 20), (.fad 2 (.t 3)), (some (17, true)), 2⟩, ⟨(some 21), (.load none (.t 20)), (some (17, true)), 2⟩, ⟨(some 22), (.eq false .sc (.t 19) (.t 21)), (some (17, true)), 2⟩, ⟨(some 23), (.pick (.t 17) (.t 22) (.c (.bool false))), none, 2⟩, ⟨(some 24), (.mov (.t 23)), none, 2⟩, ⟨(some 25), (.fad 3 (.t 2)), (some (24, true)), 2⟩, ⟨(some 26), (.load none (.t 25)), (some (24, true)), 2⟩, ⟨(some 27), (.fad 3 (.t 3)), (some (24, true)), 2⟩, ⟨(some 28), (.load none (.t 27)), (some (24, true)), 2⟩, ⟨(some 29), (.eq false .sc (.t 26) (.t 28)), (some (24, true)), 2⟩, ⟨(some 30), (.pick (.t 24) (.t 29) (.c (.bool false))), none, 2⟩, ⟨(some 31), (.mov (.t 30)), none, 2⟩, ⟨(some 32), (.fad 4 (.t 2)), (some (31, true)), 2⟩, ⟨(some 33), (.load none (.t 32)), (some (31, true)), 2⟩, ⟨(some 34), (.fad 4 (.t 3)), (some (31, true)), 2⟩, ⟨(some 35), (.load none (.t 34)), (some (31, true)), 2⟩, ⟨(some 36), (.eq false .sc (.t 33) (.t 35)), (some (31, true)), 2⟩, ⟨(some 37), (.pick (.t 31) (.t 36) (.c (.bool false))), none, 2⟩, ⟨(some 38), (.mov (.t 37)), none, 2⟩, ⟨(some 39), (.fad 5 (.t 2)), (some (38, true)), 2⟩, ⟨(some 40), (.load (some 8) (.t 39)), (some (38, true)), 2⟩, ⟨(some 41), (.fad 5 (.t 3)), (some (38, true)), 2⟩, ⟨(some 42), (.load (some 8) (.t 41)), (some (38, true)), 2⟩, ⟨(some 43), (.eq false (.arr 8) (.t 40) (.t 42)), (some (38, true)), 2⟩, ⟨(some 44), (.pick (.t 38) (.t 43) (.c (.bool false))), none, 2⟩, ⟨(some 45), (.mov (.t 44)), none, 2⟩, ⟨(some 46), (.fad 13 (.t 2)), (some (45, true)), 2⟩, ⟨(some 47), (.load (some 8) (.t 46)), (some (45, true)), 2⟩, ⟨(some 48), (.fad 13 (.t 3)), (some (45, true)), 2⟩, ⟨(some 49), (.load (some 8) (.t 48)), (some (45, true)), 2⟩, ⟨(some 50), (.eq false (.arr 8) (.t 47) (.t 49)), (some (45, true)), 2⟩, ⟨(some 51), (.pick (.t 45) (.t 50) (.c (.bool false))), none, 2⟩, ⟨(some 52), (.mov (.t 51)), none, 2⟩, ⟨(some 53), (.fad 21 (.t 2)), (some (52, true)), 2⟩, ⟨(some 54), (.load none (.t 53)), (some (52, true)), 2⟩, ⟨(some 55), (.conv .bstr (.t 54)), (some (52, true)), 2⟩, ⟨(some 56), (.fad 21 (.t 3)), (some (52, true)), 2⟩, ⟨(some 57), (.load none (.t 56)), (some (52, true)), 2⟩, ⟨(some 58), (.conv .bstr (.t 57)), (some (52, true)), 2⟩, ⟨(some 59), (.eq false .sc (.t 55) (.t 58)), (some (52, true)), 2⟩, ⟨(some 60), (.pick (.t 52) (.t 59) (.c (.bool false))), none, 2⟩, ⟨(some 61), (.mov (.t 60)), none, 2⟩, ⟨(some 62), (.fad 22 (.t 2)), (some (61, true)), 2⟩, ⟨(some 63), (.load none (.t 62)), (some (61, true)), 2⟩, ⟨(some 64), (.conv .bstr (.t 63)), (some (61, true)), 2⟩, ⟨(some 65), (.fad 22 (.t 3)), (some (61, true)), 2⟩, ⟨(some 66), (.load none (.t 65)), (some (61, true)), 2⟩, ⟨(some 67), (.conv .bstr (.t 66)), (some (61, true)), 2⟩, ⟨(some 68), (.eq false .sc (.t 64) (.t 67)), (some (61, true)), 2⟩, ⟨(some 69), (.pick (.t 61) (.t 68) (.c (.bool false))), none, 2⟩, ⟨(some 70), (.mov (.t 69)), none, 2⟩, ⟨(some 71), (.fad 23 (.t 2)), (some (70, true)), 2⟩, ⟨(some 72), (.load none (.t 71)), (some (70, true)), 2⟩, ⟨(some 73), (.conv .bstr (.t 72)), (some (70, true)), 2⟩, ⟨(some 74), (.fad 23 (.t 3)), (some (70, true)), 2⟩, ⟨(some 75), (.load none (.t 74)), (some (70, true)), 2⟩, ⟨(some 76), (.conv .bstr (.t 75)), (some (70, true)), 2⟩, ⟨(some 77), (.eq false .sc (.t 73) (.t 76)), (some (70, true)), 2⟩, ⟨(some 78), (.pick (.t 70) (.t 77) (.c (.bool false))), none, 2⟩, ⟨(some 79), (.mov (.t 78)), none, 2⟩, ⟨(some 80), (.fad 24 (.t 2)), (some (79, true)), 2⟩, ⟨(some 81), (.load none (.t 80)), (some (79, true)), 2⟩, ⟨(some 82), (.conv .bstr (.t 81)), (some (79, true)), 2⟩, ⟨(some 83), (.fad 24 (.t 3)), (some (79, true)), 2⟩, ⟨(some 84), (.load none (.t 83)), (some (79, true)), 2⟩, ⟨(some 85), (.conv .bstr (.t 84)), (some (79, true)), 2⟩, ⟨(some 86), (.eq false .sc (.t 82) (.t 85)), (some (79, true)), 2⟩, ⟨(some 87), (.pick (.t 79) (.t 86) (.c (.bool false))), none, 2⟩, ⟨(some 88), (.mov (.t 87)), none, 2⟩, ⟨(some 89), (.fad 25 (.t 2)), (some (88, true)), 2⟩, ⟨(some 90), (.load none (.t 89)), (some (88, true)), 2⟩, ⟨(some 91), (.conv .bstr (.t 90)), (some (88, true)), 2⟩, ⟨(some 92), (.fad 25 (.t 3)), (some (88, true)), 2⟩, ⟨(some 93), (.load none (.t 92)), (some (88, true)), 2⟩, ⟨(some 94), (.conv .bstr (.t 93)), (some (88, true)), 2⟩, ⟨(some 95), (.eq false .sc (.t 91) (.t 94)), (some (88, true)), 2⟩, ⟨(some 96), (.pick (.t 88) (.t 95) (.c (.bool false))), none, 2⟩, ⟨(some 4), (.mov (.t 96)), none, 2⟩]
 [])
 .ret))
theorem c21_ok : comp (tiOf Try.prog) mu21 [19, 21, 22, 25, 34, 38, 41, 42, 43, 46, 50, 56, 57, 58, 59, 62, 63, 65, 66, 71, 72, 73, 74, 75, 76] N21 (Try.f21.body.getD .skip) = c21 := by kernel_rfl
theorem b21 : Try.f21.body = some (Try.f21.body.getD .skip) := by kernel_rfl
theorem run21 {Γ : G} (hsp : SpOK Try.prog Γ.sp) {args : List AV} {h : List AO} {own : Bool} {kn : Nat} {K : AV → List AO → Prop} (hl : args.length ≤ N21) (hk0 : Γ.k0 = hlen h) (hkn : hlen h ≤ kn)
    (hrun : run Γ c21 (leafK Γ.sp res21 own kn K) [] (leafK Γ.sp res21 own kn K) (argS 0 args) h) (htn : Γ.tn ≤ N21 := by exact Nat.zero_le _)
    (hrf : ∀ F, rfind Γ.rf F = true → FdIter Try.prog F ∧ ∀ args w, (callFunc F args).run Try.prog w = .ok (.enter F args) w := by exact fun F h => absurd h (show ¬ (false = true) from Bool.false_ne_true)) : ACalls Try.prog 21 args h K :=
  acalls_of_run (tiOf_ok _) hsp follows Try.func21 b21 (rs := Try.f21.results.toList) (Array.toArray_toList).symm (by kernel_rfl) (by kernel_rfl) c21_ok (by kernel_rfl) hl hk0 htn hrf hkn hrun
theorem in21 : ∀ args w, (callFunc 21 args).run Try.prog w = .ok (.enter 21 args) w := callFunc_enter Try.func21 (by kernel_rfl) (by kernel_rfl)

/-- sentinel/sentinellaw5.within -/
def N22 : Nat := 15
def mu22 : List Nat := []
def keep22 : List Nat := [0, 1, 4, 5, 10]
def res22 : List RV := [(.t 4)]
def c22 : CC :=
 (.seq (.reg [⟨(some 4), (.mov (.c (.int 0))), none, 2⟩]
 [])
 (.seq (.reg [⟨(some 6), (.mov (.t 0)), none, 2⟩, ⟨(some 7), (.mov (.t 1)), none, 2⟩, ⟨(some 8), (.bin .rem (.t 6) (.t 7)), none, 2⟩, ⟨(some 5), (.mov (.t 8)), none, 2⟩]
 [])
 (.seq (.seq (.reg [⟨(some 9), (.mov (.t 5)), none, 2⟩, ⟨(some 10), (.bin .lss (.t 9) (.c (.int 0))), none, 2⟩]
 [])
 (.cond (.t 10)
 (.reg [⟨(some 11), (.mov (.t 5)), none, 2⟩, ⟨(some 12), (.mov (.t 1)), none, 2⟩, ⟨(some 13), (.bin .add (.t 11) (.t 12)), none, 2⟩, ⟨(some 5), (.mov (.t 13)), none, 2⟩]
 [])
 .skip))
 (.seq (.reg [⟨(some 14), (.mov (.t 5)), none, 2⟩, ⟨(some 4), (.mov (.t 14)), none, 2⟩]
 [])
 .ret))))
theorem c22_ok : comp (tiOf Try.prog) mu22 [19, 21, 22, 25, 34, 38, 41, 42, 43, 46, 50, 56, 57, 58, 59, 62, 63, 65, 66, 71, 72, 73, 74, 75, 76] N22 (Try.f22.body.getD .skip) = c22 := by kernel_rfl
theorem b22 : Try.f22.body = some (Try.f22.body.getD .skip) := by kernel_rfl
theorem run22 {Γ : G} (hsp : SpOK Try.prog Γ.sp) {args : List AV} {h : List AO} {own : Bool} {kn : Nat} {K : AV → List AO → Prop} (hl : args.length ≤ N22) (hk0 : Γ.k0 = hlen h) (hkn : hlen h ≤ kn)
    (hrun : run Γ c22 (leafK Γ.sp res22 own kn K) [] (leafK Γ.sp res22 own kn K) (argS 0 args) h) (htn : Γ.tn ≤ N22 := by exact Nat.zero_le _)
    (hrf : ∀ F, rfind Γ.rf F = true → FdIter Try.prog F ∧ ∀ args w, (callFunc F args).run Try.prog w = .ok (.enter F args) w := by exact fun F h => absurd h (show ¬ (false = true) from Bool.false_ne_true)) : ACalls Try.prog 22 args h K :=
  acalls_of_run (tiOf_ok _) hsp follows Try.func22 b22 (rs := Try.f22.results.toList) (Array.toArray_toList).symm (by kernel_rfl) (by kernel_rfl) c22_ok (by kernel_rfl) hl hk0 htn hrf hkn hrun
theorem in22 : ∀ args w, (callFunc 22 args).run Try.prog w = .ok (.enter 22 args) w := callFunc_enter Try.func22 (by kernel_rfl) (by kernel_rfl)

/-- sentinel/sentinelref5.Decode -/
def N23 : Nat := 78
def mu23 : List Nat := []
def keep23 : List Nat := [0, 2, 3, 4, 5, 6, 7, 8, 11, 36, 75]
def res23 : List RV := [(.c 2 (some 26)), (.t 3)]
def c23 : CC :=
 (.seq (.reg [⟨(some 2), (.alloc (.agg [(.int 0), (.int 0), (.int 0), (.int 0), (.str []), (.u32 0), (.u32 0), (.u32 0), (.u32 0), (.u32 0), (.u32 0), (.u32 0), (.u32 0), (.u32 0), (.u32 0), (.u32 0), (.u32 0), (.u32 0), (.u32 0), (.u32 0), (.u32 0), (.sl true 0 0 (.agg []) true), (.sl true 0 0 (.agg []) true), (.sl true 0 0 (.agg []) true), (.sl true 0 0 (.agg []) true), (.sl true 0 0 (.agg []) true)])), none, 2⟩, ⟨(some 3), (.mov (.c (.bool false))), none, 2⟩]
 [])
 (.seq (.seq (.reg [⟨(some 9), (.mov (.t 0)), none, 2⟩, ⟨(some 10), (.len false (.t 9)), none, 2⟩, ⟨(some 11), (.bin .lss (.t 10) (.c (.int 3))), none, 2⟩]
 [])
 (.cond (.t 11)
 (.seq (.reg [⟨(some 12), (.build [(.int 0), (.int 0), (.int 0), (.int 0), (.str []), (.u32 0), (.u32 0), (.u32 0), (.u32 0), (.u32 0), (.u32 0), (.u32 0), (.u32 0), (.u32 0), (.u32 0), (.u32 0), (.u32 0), (.u32 0), (.u32 0), (.u32 0), (.u32 0), (.sl true 0 0 (.agg []) true), (.sl true 0 0 (.agg []) true), (.sl true 0 0 (.agg []) true), (.sl true 0 0 (.agg []) true), (.sl true 0 0 (.agg []) true)] []), none, 2⟩, ⟨none, (.store (some 26) (.t 2) (.t 12)), none, 2⟩, ⟨(some 3), (.mov (.c (.bool false))), none, 2⟩]
 [])
 .ret)
 .skip))
 (.seq (.reg [⟨(some 13), (.mov (.t 0)), none, 2⟩, ⟨(some 14), (.iadS 1 (.t 13) (.c (.int 2))), none, 2⟩, ⟨(some 15), (.load none (.t 14)), none, 2⟩, ⟨(some 16), (.conv .u8i (.t 15)), none, 2⟩, ⟨(some 17), (.build [(.int 0), (.int 0), (.int 0), (.int 0), (.str []), (.u32 0), (.u32 0), (.u32 0), (.u32 0), (.u32 0), (.u32 0), (.u32 0), (.u32 0), (.u32 0), (.u32 0), (.u32 0), (.u32 0), (.u32 0), (.u32 0), (.u32 0), (.u32 0), (.sl true 0 0 (.agg []) true), (.sl true 0 0 (.agg []) true), (.sl true 0 0 (.agg []) true), (.sl true 0 0 (.agg []) true), (.sl true 0 0 (.agg []) true)] [(0, (1, (.t 16)))]), none, 2⟩, ⟨(some 4), (.alloc (.agg [(.int 0), (.int 0), (.int 0), (.int 0), (.str []), (.u32 0), (.u32 0), (.u32 0), (.u32 0), (.u32 0), (.u32 0), (.u32 0), (.u32 0), (.u32 0), (.u32 0), (.u32 0), (.u32 0), (.u32 0), (.u32 0), (.u32 0), (.u32 0), (.sl true 0 0 (.agg []) true), (.sl true 0 0 (.agg []) true), (.sl true 0 0 (.agg []) true), (.sl true 0 0 (.agg []) true), (.sl true 0 0 (.agg []) true)])), none, 2⟩, ⟨none, (.store (some 26) (.t 4) (.t 17)), none, 2⟩]
 [])
 (.seq (.reg [⟨(some 5), (.mov (.c (.int 3))), none, 2⟩]
 [])
 (.seq (.block 0 (.loop (.seq (.seq (.reg [⟨(some 18), (.mov (.t 5)), none, 2⟩, ⟨(some 19), (.bin .add (.t 18) (.c (.int 2))), none, 2⟩, ⟨(some 20), (.mov (.t 0)), none, 2⟩, ⟨(some 21), (.len false (.t 20)), none, 2⟩, ⟨(some 22), (.bin .leq (.t 19) (.t 21)), none, 2⟩, ⟨(some 23), (.mov (.t 22)), none, 2⟩, ⟨(some 24), (.mov (.t 5)), (some (23, true)), 2⟩, ⟨(some 25), (.bin .add (.t 24) (.c (.int 2))), (some (23, true)), 2⟩, ⟨(some 26), (.mov (.t 0)), (some (23, true)), 2⟩, ⟨(some 27), (.mov (.t 5)), (some (23, true)), 2⟩, ⟨(some 28), (.bin .add (.t 27) (.c (.int 1))), (some (23, true)), 2⟩, ⟨(some 29), (.iadS 1 (.t 26) (.t 28)), (some (23, true)), 2⟩, ⟨(some 30), (.load none (.t 29)), (some (23, true)), 2⟩, ⟨(some 31), (.conv .u8i (.t 30)), (some (23, true)), 2⟩, ⟨(some 32), (.bin .add (.t 25) (.t 31)), (some (23, true)), 2⟩, ⟨(some 33), (.mov (.t 0)), (some (23, true)), 2⟩, ⟨(some 34), (.len false (.t 33)), (some (23, true)), 2⟩, ⟨(some 35), (.bin .leq (.t 32) (.t 34)), (some (23, true)), 2⟩, ⟨(some 36), (.pick (.t 23) (.t 35) (.c (.bool false))), none, 2⟩]
 [])
 (.cond (.t 36)
 .skip
 (.exit 0)))
 (.block 1 (.seq (.reg [⟨(some 37), (.mov (.t 0)), none, 2⟩, ⟨(some 38), (.mov (.t 5)), none, 2⟩, ⟨(some 39), (.bin .add (.t 38) (.c (.int 1))), none, 2⟩, ⟨(some 40), (.iadS 1 (.t 37) (.t 39)), none, 2⟩, ⟨(some 41), (.load none (.t 40)), none, 2⟩, ⟨(some 42), (.conv .u8i (.t 41)), none, 2⟩, ⟨(some 6), (.mov (.t 42)), none, 2⟩]
 [])
 (.seq (.reg [⟨(some 43), (.load (some 26) (.t 4)), none, 1⟩, ⟨(some 44), (.mov (.t 0)), none, 0⟩, ⟨(some 45), (.mov (.t 5)), none, 0⟩, ⟨(some 46), (.iadS 1 (.t 44) (.t 45)), none, 0⟩, ⟨(some 47), (.load none (.t 46)), none, 1⟩, ⟨(some 48), (.conv .u8i (.t 47)), none, 0⟩, ⟨(some 49), (.mov (.t 0)), none, 0⟩, ⟨(some 50), (.mov (.t 5)), none, 0⟩, ⟨(some 51), (.bin .add (.t 50) (.c (.int 2))), none, 0⟩, ⟨(some 52), (.mov (.t 5)), none, 0⟩, ⟨(some 53), (.bin .add (.t 52) (.c (.int 2))), none, 0⟩, ⟨(some 54), (.mov (.t 6)), none, 0⟩, ⟨(some 55), (.bin .add (.t 53) (.t 54)), none, 0⟩, ⟨(some 56), (.slcS 1 (.t 49) (some (.t 51)) (some (.t 55)) none), none, 0⟩, ⟨(some 57), (.call (.c (.fn 56 [])) [(.t 43), (.t 48), (.t 56)]), none, 0⟩, ⟨none, (.store (some 26) (.t 4) (.t 57)), none, 2⟩]
 [])
 (.reg [⟨(some 58), (.mov (.t 5)), none, 2⟩, ⟨(some 59), (.bin .add (.t 58) (.c (.int 2))), none, 2⟩, ⟨(some 60), (.mov (.t 6)), none, 2⟩, ⟨(some 61), (.bin .add (.t 59) (.t 60)), none, 2⟩, ⟨(some 5), (.mov (.t 61)), none, 2⟩]
 [])))))))
 (.seq (.reg [⟨(some 63), (.load (some 26) (.t 4)), none, 2⟩, ⟨(some 64), (.call (.c (.fn 18 [])) [(.t 63)]), none, 2⟩, ⟨(some 62), (.mov (.t 64)), none, 2⟩, ⟨(some 65), (.ext (.t 62) 0), none, 2⟩, ⟨(some 66), (.ext (.t 62) 1), none, 2⟩, ⟨(some 7), (.mov (.t 65)), none, 2⟩, ⟨(some 8), (.mov (.t 66)), none, 2⟩]
 [])
 (.seq (.seq (.reg [⟨(some 67), (.mov (.t 8)), none, 2⟩, ⟨(some 68), (.un .not (.t 67)), none, 2⟩, ⟨(some 69), (.mov (.t 68)), none, 2⟩, ⟨(some 70), (.mov (.t 7)), (some (69, false)), 2⟩, ⟨(some 71), (.conv .bstr (.t 70)), (some (69, false)), 2⟩, ⟨(some 72), (.mov (.t 0)), (some (69, false)), 2⟩, ⟨(some 73), (.conv .bstr (.t 72)), (some (69, false)), 2⟩, ⟨(some 74), (.eq true .sc (.t 71) (.t 73)), (some (69, false)), 2⟩, ⟨(some 75), (.pick (.t 69) (.c (.bool true)) (.t 74)), none, 2⟩]
 [])
 (.cond (.t 75)
 (.seq (.reg [⟨(some 76), (.build [(.int 0), (.int 0), (.int 0), (.int 0), (.str []), (.u32 0), (.u32 0), (.u32 0), (.u32 0), (.u32 0), (.u32 0), (.u32 0), (.u32 0), (.u32 0), (.u32 0), (.u32 0), (.u32 0), (.u32 0), (.u32 0), (.u32 0), (.u32 0), (.sl true 0 0 (.agg []) true), (.sl true 0 0 (.agg []) true), (.sl true 0 0 (.agg []) true), (.sl true 0 0 (.agg []) true), (.sl true 0 0 (.agg []) true)] []), none, 2⟩, ⟨none, (.store (some 26) (.t 2) (.t 76)), none, 2⟩, ⟨(some 3), (.mov (.c (.bool false))), none, 2⟩]
 [])
 .ret)
 .skip))
 (.seq (.reg [⟨(some 77), (.load (some 26) (.t 4)), none, 2⟩, ⟨none, (.store (some 26) (.t 2) (.t 77)), none, 2⟩, ⟨(some 3), (.mov (.c (.bool true))), none, 2⟩]
 [])
 .ret))))))))
theorem c23_ok : comp (tiOf Try.prog) mu23 [19, 21, 22, 25, 34, 38, 41, 42, 43, 46, 50, 56, 57, 58, 59, 62, 63, 65, 66, 71, 72, 73, 74, 75, 76] N23 (Try.f23.body.getD .skip) = c23 := by kernel_rfl
theorem b23 : Try.f23.body = some (Try.f23.body.getD .skip) := by kernel_rfl
theorem run23 {Γ : G} (hsp : SpOK Try.prog Γ.sp) {args : List AV} {h : List AO} {own : Bool} {kn : Nat} {K : AV → List AO → Prop} (hl : args.length ≤ N23) (hk0 : Γ.k0 = hlen h) (hkn : hlen h ≤ kn)
    (hrun : run Γ c23 (leafK Γ.sp res23 own kn K) [] (leafK Γ.sp res23 own kn K) (argS 0 args) h) (htn : Γ.tn ≤ N23 := by exact Nat.zero_le _)
    (hrf : ∀ F, rfind Γ.rf F = true → FdIter Try.prog F ∧ ∀ args w, (callFunc F args).run Try.prog w = .ok (.enter F args) w := by exact fun F h => absurd h (show ¬ (false = true) from Bool.false_ne_true)) : ACalls Try.prog 23 args h K :=
  acalls_of_run (tiOf_ok _) hsp follows Try.func23 b23 (rs := Try.f23.results.toList) (Array.toArray_toList).symm (by kernel_rfl) (by kernel_rfl) c23_ok (by kernel_rfl) hl hk0 htn hrf hkn hrun
theorem in23 : ∀ args w, (callFunc 23 args).run Try.prog w = .ok (.enter 23 args) w := callFunc_enter Try.func23 (by kernel_rfl) (by kernel_rfl)

/-- sentinel/sentinelref1.From -/
def N24 : Nat := 14
def mu24 : List Nat := []
def keep24 : List Nat := [0, 2, 3, 5]
def res24 : List RV := [(.c 2 (some 8))]
def c24 : CC :=
 (.seq (.reg [⟨(some 2), (.alloc (.agg [(.u32 0), (.u32 0), (.u32 0), (.u32 0), (.u32 0), (.u32 0), (.u32 0), (.u32 0)])), none, 2⟩]
 [])
 (.seq (.reg [⟨(some 3), (.alloc (.agg [(.u32 0), (.u32 0), (.u32 0), (.u32 0), (.u32 0), (.u32 0), (.u32 0), (.u32 0)])), none, 2⟩]
 [])
 (.seq (.seq (.reg [⟨(some 4), (.mov (.t 0)), none, 2⟩, ⟨(some 5), (.bin .gtr (.t 4) (.c (.int 0))), none, 2⟩]
 [])
 (.cond (.t 5)
 (.reg [⟨(some 6), (.mov (.t 0)), none, 2⟩, ⟨(some 7), (.conv .iu32 (.t 6)), none, 2⟩, ⟨(some 8), (.mov (.t 0)), none, 2⟩, ⟨(some 9), (.bin .shr (.t 8) (.c (.u64 32))), none, 2⟩, ⟨(some 10), (.conv .iu32 (.t 9)), none, 2⟩, ⟨(some 11), (.iadA 8 1 (.t 3) (.c (.int 0))), none, 2⟩, ⟨none, (.store none (.t 11) (.t 7)), none, 2⟩, ⟨(some 12), (.iadA 8 1 (.t 3) (.c (.int 1))), none, 2⟩, ⟨none, (.store none (.t 12) (.t 10)), none, 2⟩]
 [])
 .skip))
 (.seq (.reg [⟨(some 13), (.load (some 8) (.t 3)), none, 2⟩, ⟨none, (.store (some 8) (.t 2) (.t 13)), none, 2⟩]
 [])
 .ret))))
theorem c24_ok : comp (tiOf Try.prog) mu24 [19, 21, 22, 25, 34, 38, 41, 42, 43, 46, 50, 56, 57, 58, 59, 62, 63, 65, 66, 71, 72, 73, 74, 75, 76] N24 (Try.f24.body.getD .skip) = c24 := by kernel_rfl
theorem b24 : Try.f24.body = some (Try.f24.body.getD .skip) := by kernel_rfl
theorem run24 {Γ : G} (hsp : SpOK Try.prog Γ.sp) {args : List AV} {h : List AO} {own : Bool} {kn : Nat} {K : AV → List AO → Prop} (hl : args.length ≤ N24) (hk0 : Γ.k0 = hlen h) (hkn : hlen h ≤ kn)
    (hrun : run Γ c24 (leafK Γ.sp res24 own kn K) [] (leafK Γ.sp res24 own kn K) (argS 0 args) h) (htn : Γ.tn ≤ N24 := by exact Nat.zero_le _)
    (hrf : ∀ F, rfind Γ.rf F = true → FdIter Try.prog F ∧ ∀ args w, (callFunc F args).run Try.prog w = .ok (.enter F args) w := by exact fun F h => absurd h (show ¬ (false = true) from Bool.false_ne_true)) : ACalls Try.prog 24 args h K :=
  acalls_of_run (tiOf_ok _) hsp follows Try.func24 b24 (rs := Try.f24.results.toList) (Array.toArray_toList).symm (by kernel_rfl) (by kernel_rfl) c24_ok (by kernel_rfl) hl hk0 htn hrf hkn hrun
theorem in24 : ∀ args w, (callFunc 24 args).run Try.prog w = .ok (.enter 24 args) w := callFunc_enter Try.func24 (by kernel_rfl) (by kernel_rfl)

/-- sentinel/sentinelref5.Right -/
def N25 : Nat := 84
def mu25 : List Nat := []
def keep25 : List Nat := [0, 1, 2, 40]
def res25 : List RV := [(.t 2)]
def c25 : CC :=
 (.seq (.reg [⟨(some 1), (.box (.t 0)), none, 2⟩, ⟨(some 2), (.mov (.c (.bool false))), none, 2⟩]
 [])
 (.seq (.seq (.reg [⟨(some 3), (.load (some 26) (.t 1)), none, 1⟩, ⟨(some 4), (.call (.c (.fn 46 [])) [(.t 3)]), none, 0⟩, ⟨(some 5), (.load (some 26) (.t 1)), none, 1⟩, ⟨(some 6), (.call (.c (.fn 57 [])) [(.t 5)]), none, 0⟩, ⟨(some 7), (.eq true .sc (.t 4) (.t 6)), none, 0⟩, ⟨(some 8), (.mov (.t 7)), none, 0⟩, ⟨(some 9), (.fad 1 (.t 1)), (some (8, false)), 0⟩, ⟨(some 10), (.load none (.t 9)), (some (8, false)), 1⟩, ⟨(some 11), (.bin .lss (.t 10) (.c (.int 0))), (some (8, false)), 0⟩, ⟨(some 12), (.pick (.t 8) (.c (.bool true)) (.t 11)), none, 0⟩, ⟨(some 13), (.mov (.t 12)), none, 0⟩, ⟨(some 14), (.fad 1 (.t 1)), (some (13, false)), 0⟩, ⟨(some 15), (.load none (.t 14)), (some (13, false)), 1⟩, ⟨(some 16), (.bin .gtr (.t 15) (.c (.int 2))), (some (13, false)), 0⟩, ⟨(some 17), (.pick (.t 13) (.c (.bool true)) (.t 16)), none, 0⟩, ⟨(some 18), (.mov (.t 17)), none, 0⟩, ⟨(some 19), (.fad 4 (.t 1)), (some (18, false)), 0⟩, ⟨(some 20), (.load none (.t 19)), (some (18, false)), 1⟩, ⟨(some 21), (.eq true .sc (.t 20) (.c (.str []))), (some (18, false)), 0⟩, ⟨(some 22), (.mov (.t 21)), (some (18, false)), 0⟩, ⟨(some 23), (.fad 4 (.t 1)), (some (22, true)), 0⟩, ⟨(some 24), (.load none (.t 23)), (some (22, true)), 1⟩, ⟨(some 25), (.call (.c (.fn 58 [])) [(.t 24)]), (some (22, true)), 0⟩, ⟨(some 26), (.un .not (.t 25)), (some (22, true)), 0⟩, ⟨(some 27), (.pick (.t 22) (.t 26) (.c (.bool false))), (some (18, false)), 0⟩, ⟨(some 28), (.pick (.t 18) (.c (.bool true)) (.t 27)), none, 0⟩, ⟨(some 29), (.mov (.t 28)), none, 0⟩, ⟨(some 30), (.fad 5 (.t 1)), (some (29, false)), 0⟩, ⟨(some 31), (.load (some 8) (.t 30)), (some (29, false)), 1⟩, ⟨(some 32), (.call (.c (.fn 59 [])) [(.t 31)]), (some (29, false)), 0⟩, ⟨(some 33), (.un .not (.t 32)), (some (29, false)), 0⟩, ⟨(some 34), (.pick (.t 29) (.c (.bool true)) (.t 33)), none, 0⟩, ⟨(some 35), (.mov (.t 34)), none, 0⟩, ⟨(some 36), (.fad 13 (.t 1)), (some (35, false)), 0⟩, ⟨(some 37), (.load (some 8) (.t 36)), (some (35, false)), 1⟩, ⟨(some 38), (.call (.c (.fn 59 [])) [(.t 37)]), (some (35, false)), 0⟩, ⟨(some 39), (.un .not (.t 38)), (some (35, false)), 0⟩, ⟨(some 40), (.pick (.t 35) (.c (.bool true)) (.t 39)), none, 0⟩]
 [])
 (.cond (.t 40)
 (.seq (.reg [⟨(some 2), (.mov (.c (.bool false))), none, 2⟩]
 [])
 .ret)
 .skip))
 (.seq (.reg [⟨(some 41), (.fad 21 (.t 1)), none, 2⟩, ⟨(some 42), (.load none (.t 41)), none, 2⟩, ⟨(some 43), (.len false (.t 42)), none, 2⟩, ⟨(some 44), (.bin .leq (.t 43) (.c (.int 16))), none, 2⟩, ⟨(some 45), (.mov (.t 44)), none, 2⟩, ⟨(some 46), (.fad 22 (.t 1)), (some (45, true)), 2⟩, ⟨(some 47), (.load none (.t 46)), (some (45, true)), 2⟩, ⟨(some 48), (.len false (.t 47)), (some (45, true)), 2⟩, ⟨(some 49), (.bin .leq (.t 48) (.c (.int 48))), (some (45, true)), 2⟩, ⟨(some 50), (.pick (.t 45) (.t 49) (.c (.bool false))), none, 2⟩, ⟨(some 51), (.mov (.t 50)), none, 2⟩, ⟨(some 52), (.fad 23 (.t 1)), (some (51, true)), 2⟩, ⟨(some 53), (.load none (.t 52)), (some (51, true)), 2⟩, ⟨(some 54), (.len false (.t 53)), (some (51, true)), 2⟩, ⟨(some 55), (.bin .leq (.t 54) (.c (.int 16))), (some (51, true)), 2⟩, ⟨(some 56), (.pick (.t 51) (.t 55) (.c (.bool false))), none, 2⟩, ⟨(some 57), (.mov (.t 56)), none, 2⟩, ⟨(some 58), (.fad 24 (.t 1)), (some (57, true)), 2⟩, ⟨(some 59), (.load none (.t 58)), (some (57, true)), 2⟩, ⟨(some 60), (.len false (.t 59)), (some (57, true)), 2⟩, ⟨(some 61), (.bin .leq (.t 60) (.c (.int 80))), (some (57, true)), 2⟩, ⟨(some 62), (.pick (.t 57) (.t 61) (.c (.bool false))), none, 2⟩, ⟨(some 63), (.mov (.t 62)), none, 2⟩, ⟨(some 64), (.fad 25 (.t 1)), (some (63, true)), 2⟩, ⟨(some 65), (.load none (.t 64)), (some (63, true)), 2⟩, ⟨(some 66), (.len false (.t 65)), (some (63, true)), 2⟩, ⟨(some 67), (.bin .leq (.t 66) (.c (.int 120))), (some (63, true)), 2⟩, ⟨(some 68), (.pick (.t 63) (.t 67) (.c (.bool false))), none, 2⟩, ⟨(some 69), (.mov (.t 68)), none, 2⟩, ⟨(some 70), (.fad 2 (.t 1)), (some (69, true)), 2⟩, ⟨(some 71), (.load none (.t 70)), (some (69, true)), 2⟩, ⟨(some 72), (.bin .geq (.t 71) (.c (.int 0))), (some (69, true)), 2⟩, ⟨(some 73), (.pick (.t 69) (.t 72) (.c (.bool false))), none, 2⟩, ⟨(some 74), (.mov (.t 73)), none, 2⟩, ⟨(some 75), (.fad 3 (.t 1)), (some (74, true)), 2⟩, ⟨(some 76), (.load none (.t 75)), (some (74, true)), 2⟩, ⟨(some 77), (.bin .geq (.t 76) (.c (.int 0))), (some (74, true)), 2⟩, ⟨(some 78), (.pick (.t 74) (.t 77) (.c (.bool false))), none, 2⟩, ⟨(some 79), (.mov (.t 78)), none, 2⟩, ⟨(some 80), (.fad 3 (.t 1)), (some (79, true)), 2⟩, ⟨(some 81), (.load none (.t 80)), (some (79, true)), 2⟩, ⟨(some 82), (.bin .leq (.t 81) (.c (.int 11))), (some (79, true)), 2⟩, ⟨(some 83), (.pick (.t 79) (.t 82) (.c (.bool false))), none, 2⟩, ⟨(some 2), (.mov (.t 83)), none, 2⟩]
 [])
 .ret)))
theorem c25_ok : comp (tiOf Try.prog) mu25 [19, 21, 22, 25, 34, 38, 41, 42, 43, 46, 50, 56, 57, 58, 59, 62, 63, 65, 66, 71, 72, 73, 74, 75, 76] N25 (Try.f25.body.getD .skip) = c25 := by kernel_rfl
theorem b25 : Try.f25.body = some (Try.f25.body.getD .skip) := by kernel_rfl
theorem run25 {Γ : G} (hsp : SpOK Try.prog Γ.sp) {args : List AV} {h : List AO} {own : Bool} {kn : Nat} {K : AV → List AO → Prop} (hl : args.length ≤ N25) (hk0 : Γ.k0 = hlen h) (hkn : hlen h ≤ kn)
    (hrun : run Γ c25 (leafK Γ.sp res25 own kn K) [] (leafK Γ.sp res25 own kn K) (argS 0 args) h) (htn : Γ.tn ≤ N25 := by exact Nat.zero_le _)
    (hrf : ∀ F, rfind Γ.rf F = true → FdIter Try.prog F ∧ ∀ args w, (callFunc F args).run Try.prog w = .ok (.enter F args) w := by exact fun F h => absurd h (show ¬ (false = true) from Bool.false_ne_true)) : ACalls Try.prog 25 args h K :=
  acalls_of_run (tiOf_ok _) hsp follows Try.func25 b25 (rs := Try.f25.results.toList) (Array.toArray_toList).symm (by kernel_rfl) (by kernel_rfl) c25_ok (by kernel_rfl) hl hk0 htn hrf hkn hrun
theorem in25 : ∀ args w, (callFunc 25 args).run Try.prog w = .ok (.enter 25 args) w := callFunc_enter Try.func25 (by kernel_rfl) (by kernel_rfl)

/-- sentinel/wire.New -/
def N26 : Nat := 3
def mu26 : List Nat := []
def keep26 : List Nat := [0]
def res26 : List RV := [(.t 0)]
def c26 : CC :=
 (.seq (.reg [⟨(some 0), (.mov (.c .nilp)), none, 2⟩]
 [])
 (.seq (.reg [⟨(some 1), (.build [(.sl true 0 0 (.agg []) true), (.int 0), (.bool false)] []), none, 2⟩, ⟨(some 2), (.box (.t 1)), none, 2⟩, ⟨(some 0), (.mov (.t 2)), none, 2⟩]
 [])
 .ret))
theorem c26_ok : comp (tiOf Try.prog) mu26 [19, 21, 22, 25, 34, 38, 41, 42, 43, 46, 50, 56, 57, 58, 59, 62, 63, 65, 66, 71, 72, 73, 74, 75, 76] N26 (Try.f26.body.getD .skip) = c26 := by kernel_rfl
theorem b26 : Try.f26.body = some (Try.f26.body.getD .skip) := by kernel_rfl
theorem run26 {Γ : G} (hsp : SpOK Try.prog Γ.sp) {args : List AV} {h : List AO} {own : Bool} {kn : Nat} {K : AV → List AO → Prop} (hl : args.length ≤ N26) (hk0 : Γ.k0 = hlen h) (hkn : hlen h ≤ kn)
    (hrun : run Γ c26 (leafK Γ.sp res26 own kn K) [] (leafK Γ.sp res26 own kn K) (argS 0 args) h) (htn : Γ.tn ≤ N26 := by exact Nat.zero_le _)
    (hrf : ∀ F, rfind Γ.rf F = true → FdIter Try.prog F ∧ ∀ args w, (callFunc F args).run Try.prog w = .ok (.enter F args) w := by exact fun F h => absurd h (show ¬ (false = true) from Bool.false_ne_true)) : ACalls Try.prog 26 args h K :=
  acalls_of_run (tiOf_ok _) hsp follows Try.func26 b26 (rs := Try.f26.results.toList) (Array.toArray_toList).symm (by kernel_rfl) (by kernel_rfl) c26_ok (by kernel_rfl) hl hk0 htn hrf hkn hrun
theorem in26 : ∀ args w, (callFunc 26 args).run Try.prog w = .ok (.enter 26 args) w := callFunc_enter Try.func26 (by kernel_rfl) (by kernel_rfl)

/-- sentinel/sentinelref5.New -/
def N27 : Nat := 3
def mu27 : List Nat := []
def keep27 : List Nat := [0]
def res27 : List RV := [(.t 0)]
def c27 : CC :=
 (.seq (.reg [⟨(some 0), (.mov (.c .nilp)), none, 2⟩]
 [])
 (.seq (.reg [⟨(some 1), (.build [(.sl true 0 0 (.agg []) true), (.int 0), (.bool false)] []), none, 2⟩, ⟨(some 2), (.box (.t 1)), none, 2⟩, ⟨(some 0), (.mov (.t 2)), none, 2⟩]
 [])
 .ret))
theorem c27_ok : comp (tiOf Try.prog) mu27 [19, 21, 22, 25, 34, 38, 41, 42, 43, 46, 50, 56, 57, 58, 59, 62, 63, 65, 66, 71, 72, 73, 74, 75, 76] N27 (Try.f27.body.getD .skip) = c27 := by kernel_rfl
theorem b27 : Try.f27.body = some (Try.f27.body.getD .skip) := by kernel_rfl
theorem run27 {Γ : G} (hsp : SpOK Try.prog Γ.sp) {args : List AV} {h : List AO} {own : Bool} {kn : Nat} {K : AV → List AO → Prop} (hl : args.length ≤ N27) (hk0 : Γ.k0 = hlen h) (hkn : hlen h ≤ kn)
    (hrun : run Γ c27 (leafK Γ.sp res27 own kn K) [] (leafK Γ.sp res27 own kn K) (argS 0 args) h) (htn : Γ.tn ≤ N27 := by exact Nat.zero_le _)
    (hrf : ∀ F, rfind Γ.rf F = true → FdIter Try.prog F ∧ ∀ args w, (callFunc F args).run Try.prog w = .ok (.enter F args) w := by exact fun F h => absurd h (show ¬ (false = true) from Bool.false_ne_true)) : ACalls Try.prog 27 args h K :=
  acalls_of_run (tiOf_ok _) hsp follows Try.func27 b27 (rs := Try.f27.results.toList) (Array.toArray_toList).symm (by kernel_rfl) (by kernel_rfl) c27_ok (by kernel_rfl) hl hk0 htn hrf hkn hrun
theorem in27 : ∀ args w, (callFunc 27 args).run Try.prog w = .ok (.enter 27 args) w := callFunc_enter Try.func27 (by kernel_rfl) (by kernel_rfl)

/-- (*sentinel/wire.Stream).Write -/
def N28 : Nat := 42
def mu28 : List Nat := []
def keep28 : List Nat := [0, 1, 4, 22]
def res28 : List RV := [(.t 4)]
def c28 : CC :=
 (.seq (.reg [⟨(some 4), (.mov (.c (.bool false))), none, 2⟩]
 [])
 (.seq (.seq (.reg [⟨(some 5), (.mov (.t 0)), none, 2⟩, ⟨(some 6), (.mov (.t 0)), none, 2⟩, ⟨(some 7), (.nilck (.t 6)), none, 2⟩, ⟨(some 8), (.fad 2 (.t 7)), none, 2⟩, ⟨(some 9), (.load none (.t 8)), none, 2⟩, ⟨(some 10), (.mov (.t 9)), none, 2⟩, ⟨(some 11), (.mov (.t 0)), (some (10, false)), 2⟩, ⟨(some 12), (.nilck (.t 11)), (some (10, false)), 2⟩, ⟨(some 13), (.fad 1 (.t 12)), (some (10, false)), 2⟩, ⟨(some 14), (.load none (.t 13)), (some (10, false)), 2⟩, ⟨(some 15), (.bin .geq (.t 14) (.c (.int 100000))), (some (10, false)), 2⟩, ⟨(some 16), (.pick (.t 10) (.c (.bool true)) (.t 15)), none, 2⟩, ⟨(some 17), (.nilck (.t 5)), none, 2⟩, ⟨(some 18), (.fad 2 (.t 17)), none, 2⟩, ⟨none, (.store none (.t 18) (.t 16)), none, 2⟩]
 [])
 (.seq (.reg [⟨(some 19), (.mov (.t 0)), none, 2⟩, ⟨(some 20), (.nilck (.t 19)), none, 2⟩, ⟨(some 21), (.fad 2 (.t 20)), none, 2⟩, ⟨(some 22), (.load none (.t 21)), none, 2⟩]
 [])
 (.cond (.t 22)
 (.seq (.reg [⟨(some 4), (.mov (.c (.bool false))), none, 2⟩]
 [])
 .ret)
 .skip)))
 (.seq (.reg [⟨(some 23), (.mov (.t 0)), none, 2⟩, ⟨(some 24), (.mov (.t 0)), none, 2⟩, ⟨(some 25), (.nilck (.t 24)), none, 2⟩, ⟨(some 26), (.fad 0 (.t 25)), none, 2⟩, ⟨(some 27), (.load none (.t 26)), none, 2⟩, ⟨(some 28), (.mov (.t 1)), none, 2⟩, ⟨(some 29), (.bsl false .other 1 2 [(.sl true 0 0 (.agg []) true)] [(0, (1, (.t 27))), (1, (1, (.t 28)))]), none, 2⟩, ⟨(some 30), (.call (.c (.fn 45 [])) [(.t 29)]), none, 2⟩, ⟨(some 31), (.nilck (.t 23)), none, 2⟩, ⟨(some 32), (.fad 0 (.t 31)), none, 2⟩, ⟨none, (.store none (.t 32) (.t 30)), none, 2⟩]
 [])
 (.seq (.reg [⟨(some 33), (.mov (.t 0)), none, 2⟩, ⟨(some 34), (.nilck (.t 33)), none, 2⟩, ⟨(some 35), (.fad 1 (.t 34)), none, 2⟩, ⟨(some 36), (.load none (.t 35)), none, 2⟩, ⟨(some 37), (.mov (.t 1)), none, 2⟩, ⟨(some 38), (.len false (.t 37)), none, 2⟩, ⟨(some 39), (.bin .add (.t 36) (.t 38)), none, 2⟩, ⟨(some 40), (.nilck (.t 33)), none, 2⟩, ⟨(some 41), (.fad 1 (.t 40)), none, 2⟩, ⟨none, (.store none (.t 41) (.t 39)), none, 2⟩]
 [])
 (.seq (.reg [⟨(some 4), (.mov (.c (.bool true))), none, 2⟩]
 [])
 .ret)))))
theorem c28_ok : comp (tiOf Try.prog) mu28 [19, 21, 22, 25, 34, 38, 41, 42, 43, 46, 50, 56, 57, 58, 59, 62, 63, 65, 66, 71, 72, 73, 74, 75, 76] N28 (Try.f28.body.getD .skip) = c28 := by kernel_rfl
theorem b28 : Try.f28.body = some (Try.f28.body.getD .skip) := by kernel_rfl
theorem run28 {Γ : G} (hsp : SpOK Try.prog Γ.sp) {args : List AV} {h : List AO} {own : Bool} {kn : Nat} {K : AV → List AO → Prop} (hl : args.length ≤ N28) (hk0 : Γ.k0 = hlen h) (hkn : hlen h ≤ kn)
    (hrun : run Γ c28 (leafK Γ.sp res28 own kn K) [] (leafK Γ.sp res28 own kn K) (argS 0 args) h) (htn : Γ.tn ≤ N28 := by exact Nat.zero_le _)
    (hrf : ∀ F, rfind Γ.rf F = true → FdIter Try.prog F ∧ ∀ args w, (callFunc F args).run Try.prog w = .ok (.enter F args) w := by exact fun F h => absurd h (show ¬ (false = true) from Bool.false_ne_true)) : ACalls Try.prog 28 args h K :=
  acalls_of_run (tiOf_ok _) hsp follows Try.func28 b28 (rs := Try.f28.results.toList) (Array.toArray_toList).symm (by kernel_rfl) (by kernel_rfl) c28_ok (by kernel_rfl) hl hk0 htn hrf hkn hrun
theorem in28 : ∀ args w, (callFunc 28 args).run Try.prog w = .ok (.enter 28 args) w := callFunc_enter Try.func28 (by kernel_rfl) (by kernel_rfl)

/-- (*sentinel/sentinelref5.Stream).Write -/
def N29 : Nat := 40
def mu29 : List Nat := []
def keep29 : List Nat := [0, 1, 4, 15]
def res29 : List RV := [(.t 4)]
def c29 : CC :=
 (.seq (.reg [⟨(some 4), (.mov (.c (.bool false))), none, 2⟩]
 [])
 (.seq (.seq (.reg [⟨(some 5), (.mov (.t 0)), none, 2⟩, ⟨(some 6), (.nilck (.t 5)), none, 2⟩, ⟨(some 7), (.fad 2 (.t 6)), none, 2⟩, ⟨(some 8), (.load none (.t 7)), none, 2⟩, ⟨(some 9), (.mov (.t 8)), none, 2⟩, ⟨(some 10), (.mov (.t 0)), (some (9, false)), 2⟩, ⟨(some 11), (.nilck (.t 10)), (some (9, false)), 2⟩, ⟨(some 12), (.fad 1 (.t 11)), (some (9, false)), 2⟩, ⟨(some 13), (.load none (.t 12)), (some (9, false)), 2⟩, ⟨(some 14), (.bin .geq (.t 13) (.c (.int 100000))), (some (9, false)), 2⟩, ⟨(some 15), (.pick (.t 9) (.c (.bool true)) (.t 14)), none, 2⟩]
 [])
 (.cond (.t 15)
 (.seq (.reg [⟨(some 16), (.mov (.t 0)), none, 2⟩, ⟨(some 17), (.nilck (.t 16)), none, 2⟩, ⟨(some 18), (.fad 2 (.t 17)), none, 2⟩, ⟨none, (.store none (.t 18) (.c (.bool true))), none, 2⟩]
 [])
 (.seq (.reg [⟨(some 4), (.mov (.c (.bool false))), none, 2⟩]
 [])
 .ret))
 .skip))
 (.seq (.reg [⟨(some 19), (.mov (.t 0)), none, 2⟩, ⟨(some 20), (.mov (.t 0)), none, 2⟩, ⟨(some 21), (.nilck (.t 20)), none, 2⟩, ⟨(some 22), (.fad 1 (.t 21)), none, 2⟩, ⟨(some 23), (.load none (.t 22)), none, 2⟩, ⟨(some 24), (.mov (.t 1)), none, 2⟩, ⟨(some 25), (.len false (.t 24)), none, 2⟩, ⟨(some 26), (.bin .add (.t 23) (.t 25)), none, 2⟩, ⟨(some 27), (.nilck (.t 19)), none, 2⟩, ⟨(some 28), (.fad 1 (.t 27)), none, 2⟩, ⟨none, (.store none (.t 28) (.t 26)), none, 2⟩]
 [])
 (.seq (.reg [⟨(some 29), (.mov (.t 0)), none, 2⟩, ⟨(some 30), (.bsl false .u8 1 0 [(.u8 0)] []), none, 2⟩, ⟨(some 31), (.mov (.t 0)), none, 2⟩, ⟨(some 32), (.nilck (.t 31)), none, 2⟩, ⟨(some 33), (.fad 0 (.t 32)), none, 2⟩, ⟨(some 34), (.load none (.t 33)), none, 2⟩, ⟨(some 35), (.app true 1 1 (.t 30) (.t 34)), none, 2⟩, ⟨(some 36), (.mov (.t 1)), none, 2⟩, ⟨(some 37), (.app true 1 1 (.t 35) (.t 36)), none, 2⟩, ⟨(some 38), (.nilck (.t 29)), none, 2⟩, ⟨(some 39), (.fad 0 (.t 38)), none, 2⟩, ⟨none, (.store none (.t 39) (.t 37)), none, 2⟩]
 [])
 (.seq (.reg [⟨(some 4), (.mov (.c (.bool true))), none, 2⟩]
 [])
 .ret)))))
theorem c29_ok : comp (tiOf Try.prog) mu29 [19, 21, 22, 25, 34, 38, 41, 42, 43, 46, 50, 56, 57, 58, 59, 62, 63, 65, 66, 71, 72, 73, 74, 75, 76] N29 (Try.f29.body.getD .skip) = c29 := by kernel_rfl
theorem b29 : Try.f29.body = some (Try.f29.body.getD .skip) := by kernel_rfl
theorem run29 {Γ : G} (hsp : SpOK Try.prog Γ.sp) {args : List AV} {h : List AO} {own : Bool} {kn : Nat} {K : AV → List AO → Prop} (hl : args.length ≤ N29) (hk0 : Γ.k0 = hlen h) (hkn : hlen h ≤ kn)
    (hrun : run Γ c29 (leafK Γ.sp res29 own kn K) [] (leafK Γ.sp res29 own kn K) (argS 0 args) h) (htn : Γ.tn ≤ N29 := by exact Nat.zero_le _)
    (hrf : ∀ F, rfind Γ.rf F = true → FdIter Try.prog F ∧ ∀ args w, (callFunc F args).run Try.prog w = .ok (.enter F args) w := by exact fun F h => absurd h (show ¬ (false = true) from Bool.false_ne_true)) : ACalls Try.prog 29 args h K :=
  acalls_of_run (tiOf_ok _) hsp follows Try.func29 b29 (rs := Try.f29.results.toList) (Array.toArray_toList).symm (by kernel_rfl) (by kernel_rfl) c29_ok (by kernel_rfl) hl hk0 htn hrf hkn hrun
theorem in29 : ∀ args w, (callFunc 29 args).run Try.prog w = .ok (.enter 29 args) w := callFunc_enter Try.func29 (by kernel_rfl) (by kernel_rfl)

/-- (*sentinel/wire.Stream).Next -/
def N30 : Nat := 75
def mu30 : List Nat := []
def keep30 : List Nat := [0, 2, 3, 4, 16, 36, 47]
def res30 : List RV := [(.c 2 (some 26)), (.t 3)]
def c30 : CC :=
 (.seq (.reg [⟨(some 2), (.alloc (.agg [(.int 0), (.int 0), (.int 0), (.int 0), (.str []), (.u32 0), (.u32 0), (.u32 0), (.u32 0), (.u32 0), (.u32 0), (.u32 0), (.u32 0), (.u32 0), (.u32 0), (.u32 0), (.u32 0), (.u32 0), (.u32 0), (.u32 0), (.u32 0), (.sl true 0 0 (.agg []) true), (.sl true 0 0 (.agg []) true), (.sl true 0 0 (.agg []) true), (.sl true 0 0 (.agg []) true), (.sl true 0 0 (.agg []) true)])), none, 2⟩, ⟨(some 3), (.mov (.c (.bool false))), none, 2⟩]
 [])
 (.seq (.seq (.reg [⟨(some 5), (.mov (.t 0)), none, 2⟩, ⟨(some 6), (.nilck (.t 5)), none, 2⟩, ⟨(some 7), (.fad 2 (.t 6)), none, 2⟩, ⟨(some 8), (.load none (.t 7)), none, 2⟩, ⟨(some 9), (.mov (.t 8)), none, 2⟩, ⟨(some 10), (.mov (.t 0)), (some (9, false)), 2⟩, ⟨(some 11), (.nilck (.t 10)), (some (9, false)), 2⟩, ⟨(some 12), (.fad 0 (.t 11)), (some (9, false)), 2⟩, ⟨(some 13), (.load none (.t 12)), (some (9, false)), 2⟩, ⟨(some 14), (.len false (.t 13)), (some (9, false)), 2⟩, ⟨(some 15), (.bin .lss (.t 14) (.c (.int 2))), (some (9, false)), 2⟩, ⟨(some 16), (.pick (.t 9) (.c (.bool true)) (.t 15)), none, 2⟩]
 [])
 (.cond (.t 16)
 (.seq (.reg [⟨(some 17), (.build [(.int 0), (.int 0), (.int 0), (.int 0), (.str []), (.u32 0), (.u32 0), (.u32 0), (.u32 0), (.u32 0), (.u32 0), (.u32 0), (.u32 0), (.u32 0), (.u32 0), (.u32 0), (.u32 0), (.u32 0), (.u32 0), (.u32 0), (.u32 0), (.sl true 0 0 (.agg []) true), (.sl true 0 0 (.agg []) true), (.sl true 0 0 (.agg []) true), (.sl true 0 0 (.agg []) true), (.sl true 0 0 (.agg []) true)] []), none, 2⟩, ⟨none, (.store (some 26) (.t 2) (.t 17)), none, 2⟩, ⟨(some 3), (.mov (.c (.bool false))), none, 2⟩]
 [])
 .ret)
 .skip))
 (.seq (.reg [⟨(some 18), (.mov (.t 0)), none, 0⟩, ⟨(some 19), (.nilck (.t 18)), none, 0⟩, ⟨(some 20), (.fad 0 (.t 19)), none, 0⟩, ⟨(some 21), (.load none (.t 20)), none, 1⟩, ⟨(some 22), (.iadS 1 (.t 21) (.c (.int 0))), none, 0⟩, ⟨(some 23), (.load none (.t 22)), none, 1⟩, ⟨(some 24), (.conv .u8i (.t 23)), none, 0⟩, ⟨(some 25), (.bin .shl (.t 24) (.c (.u64 8))), none, 0⟩, ⟨(some 26), (.mov (.t 0)), none, 0⟩, ⟨(some 27), (.nilck (.t 26)), none, 0⟩, ⟨(some 28), (.fad 0 (.t 27)), none, 0⟩, ⟨(some 29), (.load none (.t 28)), none, 1⟩, ⟨(some 30), (.iadS 1 (.t 29) (.c (.int 1))), none, 0⟩, ⟨(some 31), (.load none (.t 30)), none, 1⟩, ⟨(some 32), (.conv .u8i (.t 31)), none, 0⟩, ⟨(some 33), (.bin .or (.t 25) (.t 32)), none, 0⟩, ⟨(some 34), (.bin .add (.c (.int 2)) (.t 33)), none, 0⟩, ⟨(some 4), (.mov (.t 34)), none, 0⟩]
 [])
 (.seq (.seq (.reg [⟨(some 35), (.mov (.t 4)), none, 2⟩, ⟨(some 36), (.bin .gtr (.t 35) (.c (.int 202))), none, 2⟩]
 [])
 (.cond (.t 36)
 (.seq (.reg [⟨(some 37), (.mov (.t 0)), none, 2⟩, ⟨(some 38), (.nilck (.t 37)), none, 2⟩, ⟨(some 39), (.fad 2 (.t 38)), none, 2⟩, ⟨none, (.store none (.t 39) (.c (.bool true))), none, 2⟩]
 [])
 (.seq (.reg [⟨(some 40), (.build [(.int 0), (.int 0), (.int 0), (.int 0), (.str []), (.u32 0), (.u32 0), (.u32 0), (.u32 0), (.u32 0), (.u32 0), (.u32 0), (.u32 0), (.u32 0), (.u32 0), (.u32 0), (.u32 0), (.u32 0), (.u32 0), (.u32 0), (.u32 0), (.sl true 0 0 (.agg []) true), (.sl true 0 0 (.agg []) true), (.sl true 0 0 (.agg []) true), (.sl true 0 0 (.agg []) true), (.sl true 0 0 (.agg []) true)] []), none, 2⟩, ⟨none, (.store (some 26) (.t 2) (.t 40)), none, 2⟩, ⟨(some 3), (.mov (.c (.bool false))), none, 2⟩]
 [])
 .ret))
 .skip))
 (.seq (.seq (.reg [⟨(some 41), (.mov (.t 0)), none, 2⟩, ⟨(some 42), (.nilck (.t 41)), none, 2⟩, ⟨(some 43), (.fad 0 (.t 42)), none, 2⟩, ⟨(some 44), (.load none (.t 43)), none, 2⟩, ⟨(some 45), (.len false (.t 44)), none, 2⟩, ⟨(some 46), (.mov (.t 4)), none, 2⟩, ⟨(some 47), (.bin .lss (.t 45) (.t 46)), none, 2⟩]
 [])
 (.cond (.t 47)
 (.seq (.reg [⟨(some 48), (.build [(.int 0), (.int 0), (.int 0), (.int 0), (.str []), (.u32 0), (.u32 0), (.u32 0), (.u32 0), (.u32 0), (.u32 0), (.u32 0), (.u32 0), (.u32 0), (.u32 0), (.u32 0), (.u32 0), (.u32 0), (.u32 0), (.u32 0), (.u32 0), (.sl true 0 0 (.agg []) true), (.sl true 0 0 (.agg []) true), (.sl true 0 0 (.agg []) true), (.sl true 0 0 (.agg []) true), (.sl true 0 0 (.agg []) true)] []), none, 2⟩, ⟨none, (.store (some 26) (.t 2) (.t 48)), none, 2⟩, ⟨(some 3), (.mov (.c (.bool false))), none, 2⟩]
 [])
 .ret)
 .skip))
 (.seq (.reg [⟨(some 50), (.mov (.t 0)), none, 2⟩, ⟨(some 51), (.nilck (.t 50)), none, 2⟩, ⟨(some 52), (.fad 0 (.t 51)), none, 2⟩, ⟨(some 53), (.load none (.t 52)), none, 2⟩, ⟨(some 54), (.mov (.t 4)), none, 2⟩, ⟨(some 55), (.slcS 1 (.t 53) none (some (.t 54)) none), none, 2⟩, ⟨(some 56), (.call (.c (.fn 20 [])) [(.t 55)]), none, 2⟩, ⟨(some 49), (.mov (.t 56)), none, 2⟩, ⟨(some 57), (.ext (.t 49) 0), none, 2⟩, ⟨(some 58), (.ext (.t 49) 1), none, 2⟩, ⟨none, (.store (some 26) (.t 2) (.t 57)), none, 2⟩, ⟨(some 3), (.mov (.t 58)), none, 2⟩]
 [])
 (.seq (.reg [⟨(some 59), (.mov (.t 0)), none, 2⟩, ⟨(some 60), (.mov (.t 0)), none, 2⟩, ⟨(some 61), (.mov (.t 0)), none, 2⟩, ⟨(some 62), (.nilck (.t 61)), none, 2⟩, ⟨(some 63), (.fad 0 (.t 62)), none, 2⟩, ⟨(some 64), (.load none (.t 63)), none, 2⟩, ⟨(some 65), (.mov (.t 4)), none, 2⟩, ⟨(some 66), (.slcS 1 (.t 64) (some (.t 65)) none none), none, 2⟩, ⟨(some 67), (.mov (.t 3)), none, 2⟩, ⟨(some 68), (.un .not (.t 67)), none, 2⟩, ⟨(some 69), (.nilck (.t 59)), none, 2⟩, ⟨(some 70), (.fad 0 (.t 69)), none, 2⟩, ⟨none, (.store none (.t 70) (.t 66)), none, 2⟩, ⟨(some 71), (.nilck (.t 60)), none, 2⟩, ⟨(some 72), (.fad 2 (.t 71)), none, 2⟩, ⟨none, (.store none (.t 72) (.t 68)), none, 2⟩]
 [])
 (.seq (.reg [⟨(some 73), (.load (some 26) (.t 2)), none, 2⟩, ⟨(some 74), (.mov (.t 3)), none, 2⟩, ⟨none, (.store (some 26) (.t 2) (.t 73)), none, 2⟩, ⟨(some 3), (.mov (.t 74)), none, 2⟩]
 [])
 .ret))))))))
theorem c30_ok : comp (tiOf Try.prog) mu30 [19, 21, 22, 25, 34, 38, 41, 42, 43, 46, 50, 56, 57, 58, 59, 62, 63, 65, 66, 71, 72, 73, 74, 75, 76] N30 (Try.f30.body.getD .skip) = c30 := by kernel_rfl
theorem b30 : Try.f30.body = some (Try.f30.body.getD .skip) := by kernel_rfl
theorem run30 {Γ : G} (hsp : SpOK Try.prog Γ.sp) {args : List AV} {h : List AO} {own : Bool} {kn : Nat} {K : AV → List AO → Prop} (hl : args.length ≤ N30) (hk0 : Γ.k0 = hlen h) (hkn : hlen h ≤ kn)
    (hrun : run Γ c30 (leafK Γ.sp res30 own kn K) [] (leafK Γ.sp res30 own kn K) (argS 0 args) h) (htn : Γ.tn ≤ N30 := by exact Nat.zero_le _)
    (hrf : ∀ F, rfind Γ.rf F = true → FdIter Try.prog F ∧ ∀ args w, (callFunc F args).run Try.prog w = .ok (.enter F args) w := by exact fun F h => absurd h (show ¬ (false = true) from Bool.false_ne_true)) : ACalls Try.prog 30 args h K :=
  acalls_of_run (tiOf_ok _) hsp follows Try.func30 b30 (rs := Try.f30.results.toList) (Array.toArray_toList).symm (by kernel_rfl) (by kernel_rfl) c30_ok (by kernel_rfl) hl hk0 htn hrf hkn hrun
theorem in30 : ∀ args w, (callFunc 30 args).run Try.prog w = .ok (.enter 30 args) w := callFunc_enter Try.func30 (by kernel_rfl) (by kernel_rfl)

/-- (*sentinel/sentinelref5.Stream).Next -/
def N31 : Nat := 79
def mu31 : List Nat := []
def keep31 : List Nat := [0, 2, 3, 4, 5, 6, 18, 39, 50, 67]
def res31 : List RV := [(.c 2 (some 26)), (.t 3)]
def c31 : CC :=
 (.seq (.reg [⟨(some 2), (.alloc (.agg [(.int 0), (.int 0), (.int 0), (.int 0), (.str []), (.u32 0), (.u32 0), (.u32 0), (.u32 0), (.u32 0), (.u32 0), (.u32 0), (.u32 0), (.u32 0), (.u32 0), (.u32 0), (.u32 0), (.u32 0), (.u32 0), (.u32 0), (.u32 0), (.sl true 0 0 (.agg []) true), (.sl true 0 0 (.agg []) true), (.sl true 0 0 (.agg []) true), (.sl true 0 0 (.agg []) true), (.sl true 0 0 (.agg []) true)])), none, 2⟩, ⟨(some 3), (.mov (.c (.bool false))), none, 2⟩]
 [])
 (.seq (.seq (.reg [⟨(some 7), (.mov (.t 0)), none, 2⟩, ⟨(some 8), (.nilck (.t 7)), none, 2⟩, ⟨(some 9), (.fad 2 (.t 8)), none, 2⟩, ⟨(some 10), (.load none (.t 9)), none, 2⟩, ⟨(some 11), (.mov (.t 10)), none, 2⟩, ⟨(some 12), (.mov (.t 0)), (some (11, false)), 2⟩, ⟨(some 13), (.nilck (.t 12)), (some (11, false)), 2⟩, ⟨(some 14), (.fad 0 (.t 13)), (some (11, false)), 2⟩, ⟨(some 15), (.load none (.t 14)), (some (11, false)), 2⟩, ⟨(some 16), (.len false (.t 15)), (some (11, false)), 2⟩, ⟨(some 17), (.bin .lss (.t 16) (.c (.int 2))), (some (11, false)), 2⟩, ⟨(some 18), (.pick (.t 11) (.c (.bool true)) (.t 17)), none, 2⟩]
 [])
 (.cond (.t 18)
 (.seq (.reg [⟨(some 19), (.build [(.int 0), (.int 0), (.int 0), (.int 0), (.str []), (.u32 0), (.u32 0), (.u32 0), (.u32 0), (.u32 0), (.u32 0), (.u32 0), (.u32 0), (.u32 0), (.u32 0), (.u32 0), (.u32 0), (.u32 0), (.u32 0), (.u32 0), (.u32 0), (.sl true 0 0 (.agg []) true), (.sl true 0 0 (.agg []) true), (.sl true 0 0 (.agg []) true), (.sl true 0 0 (.agg []) true), (.sl true 0 0 (.agg []) true)] []), none, 2⟩, ⟨none, (.store (some 26) (.t 2) (.t 19)), none, 2⟩, ⟨(some 3), (.mov (.c (.bool false))), none, 2⟩]
 [])
 .ret)
 .skip))
 (.seq (.reg [⟨(some 20), (.mov (.t 0)), none, 0⟩, ⟨(some 21), (.nilck (.t 20)), none, 0⟩, ⟨(some 22), (.fad 0 (.t 21)), none, 0⟩, ⟨(some 23), (.load none (.t 22)), none, 1⟩, ⟨(some 24), (.iadS 1 (.t 23) (.c (.int 0))), none, 0⟩, ⟨(some 25), (.load none (.t 24)), none, 1⟩, ⟨(some 26), (.conv .u8i (.t 25)), none, 0⟩, ⟨(some 27), (.bin .shl (.t 26) (.c (.u64 8))), none, 0⟩, ⟨(some 28), (.bin .add (.c (.int 2)) (.t 27)), none, 0⟩, ⟨(some 29), (.mov (.t 0)), none, 0⟩, ⟨(some 30), (.nilck (.t 29)), none, 0⟩, ⟨(some 31), (.fad 0 (.t 30)), none, 0⟩, ⟨(some 32), (.load none (.t 31)), none, 1⟩, ⟨(some 33), (.iadS 1 (.t 32) (.c (.int 1))), none, 0⟩, ⟨(some 34), (.load none (.t 33)), none, 1⟩, ⟨(some 35), (.conv .u8i (.t 34)), none, 0⟩, ⟨(some 36), (.bin .add (.t 28) (.t 35)), none, 0⟩, ⟨(some 4), (.mov (.t 36)), none, 0⟩]
 [])
 (.seq (.seq (.reg [⟨(some 37), (.mov (.t 4)), none, 2⟩, ⟨(some 38), (.bin .sub (.t 37) (.c (.int 2))), none, 2⟩, ⟨(some 39), (.bin .gtr (.t 38) (.c (.int 200))), none, 2⟩]
 [])
 (.cond (.t 39)
 (.seq (.reg [⟨(some 40), (.mov (.t 0)), none, 2⟩, ⟨(some 41), (.nilck (.t 40)), none, 2⟩, ⟨(some 42), (.fad 2 (.t 41)), none, 2⟩, ⟨none, (.store none (.t 42) (.c (.bool true))), none, 2⟩]
 [])
 (.seq (.reg [⟨(some 43), (.build [(.int 0), (.int 0), (.int 0), (.int 0), (.str []), (.u32 0), (.u32 0), (.u32 0), (.u32 0), (.u32 0), (.u32 0), (.u32 0), (.u32 0), (.u32 0), (.u32 0), (.u32 0), (.u32 0), (.u32 0), (.u32 0), (.u32 0), (.u32 0), (.sl true 0 0 (.agg []) true), (.sl true 0 0 (.agg []) true), (.sl true 0 0 (.agg []) true), (.sl true 0 0 (.agg []) true), (.sl true 0 0 (.agg []) true)] []), none, 2⟩, ⟨none, (.store (some 26) (.t 2) (.t 43)), none, 2⟩, ⟨(some 3), (.mov (.c (.bool false))), none, 2⟩]
 [])
 .ret))
 .skip))
 (.seq (.seq (.reg [⟨(some 44), (.mov (.t 4)), none, 2⟩, ⟨(some 45), (.mov (.t 0)), none, 2⟩, ⟨(some 46), (.nilck (.t 45)), none, 2⟩, ⟨(some 47), (.fad 0 (.t 46)), none, 2⟩, ⟨(some 48), (.load none (.t 47)), none, 2⟩, ⟨(some 49), (.len false (.t 48)), none, 2⟩, ⟨(some 50), (.bin .gtr (.t 44) (.t 49)), none, 2⟩]
 [])
 (.cond (.t 50)
 (.seq (.reg [⟨(some 51), (.build [(.int 0), (.int 0), (.int 0), (.int 0), (.str []), (.u32 0), (.u32 0), (.u32 0), (.u32 0), (.u32 0), (.u32 0), (.u32 0), (.u32 0), (.u32 0), (.u32 0), (.u32 0), (.u32 0), (.u32 0), (.u32 0), (.u32 0), (.u32 0), (.sl true 0 0 (.agg []) true), (.sl true 0 0 (.agg []) true), (.sl true 0 0 (.agg []) true), (.sl true 0 0 (.agg []) true), (.sl true 0 0 (.agg []) true)] []), none, 2⟩, ⟨none, (.store (some 26) (.t 2) (.t 51)), none, 2⟩, ⟨(some 3), (.mov (.c (.bool false))), none, 2⟩]
 [])
 .ret)
 .skip))
 (.seq (.reg [⟨(some 53), (.mov (.t 0)), none, 2⟩, ⟨(some 54), (.nilck (.t 53)), none, 2⟩, ⟨(some 55), (.fad 0 (.t 54)), none, 2⟩, ⟨(some 56), (.load none (.t 55)), none, 2⟩, ⟨(some 57), (.mov (.t 4)), none, 2⟩, ⟨(some 58), (.slcS 1 (.t 56) none (some (.t 57)) none), none, 2⟩, ⟨(some 59), (.call (.c (.fn 23 [])) [(.t 58)]), none, 2⟩, ⟨(some 52), (.mov (.t 59)), none, 2⟩, ⟨(some 60), (.ext (.t 52) 0), none, 2⟩, ⟨(some 61), (.ext (.t 52) 1), none, 2⟩, ⟨(some 5), (.alloc (.agg [(.int 0), (.int 0), (.int 0), (.int 0), (.str []), (.u32 0), (.u32 0), (.u32 0), (.u32 0), (.u32 0), (.u32 0), (.u32 0), (.u32 0), (.u32 0), (.u32 0), (.u32 0), (.u32 0), (.u32 0), (.u32 0), (.u32 0), (.u32 0), (.sl true 0 0 (.agg []) true), (.sl true 0 0 (.agg []) true), (.sl true 0 0 (.agg []) true), (.sl true 0 0 (.agg []) true), (.sl true 0 0 (.agg []) true)])), none, 2⟩, ⟨none, (.store (some 26) (.t 5) (.t 60)), none, 2⟩, ⟨(some 6), (.mov (.t 61)), none, 2⟩]
 [])
 (.seq (.reg [⟨(some 62), (.mov (.t 0)), none, 2⟩, ⟨(some 63), (.mov (.t 6)), none, 2⟩, ⟨(some 64), (.un .not (.t 63)), none, 2⟩, ⟨(some 65), (.nilck (.t 62)), none, 2⟩, ⟨(some 66), (.fad 2 (.t 65)), none, 2⟩, ⟨none, (.store none (.t 66) (.t 64)), none, 2⟩]
 [])
 (.seq (.seq (.reg [⟨(some 67), (.mov (.t 6)), none, 2⟩]
 [])
 (.cond (.t 67)
 (.reg [⟨(some 68), (.mov (.t 0)), none, 2⟩, ⟨(some 69), (.mov (.t 0)), none, 2⟩, ⟨(some 70), (.nilck (.t 69)), none, 2⟩, ⟨(some 71), (.fad 0 (.t 70)), none, 2⟩, ⟨(some 72), (.load none (.t 71)), none, 2⟩, ⟨(some 73), (.mov (.t 4)), none, 2⟩, ⟨(some 74), (.slcS 1 (.t 72) (some (.t 73)) none none), none, 2⟩, ⟨(some 75), (.nilck (.t 68)), none, 2⟩, ⟨(some 76), (.fad 0 (.t 75)), none, 2⟩, ⟨none, (.store none (.t 76) (.t 74)), none, 2⟩]
 [])
 .skip))
 (.seq (.reg [⟨(some 77), (.load (some 26) (.t 5)), none, 2⟩, ⟨(some 78), (.mov (.t 6)), none, 2⟩, ⟨none, (.store (some 26) (.t 2) (.t 77)), none, 2⟩, ⟨(some 3), (.mov (.t 78)), none, 2⟩]
 [])
 .ret)))))))))
theorem c31_ok : comp (tiOf Try.prog) mu31 [19, 21, 22, 25, 34, 38, 41, 42, 43, 46, 50, 56, 57, 58, 59, 62, 63, 65, 66, 71, 72, 73, 74, 75, 76] N31 (Try.f31.body.getD .skip) = c31 := by kernel_rfl
theorem b31 : Try.f31.body = some (Try.f31.body.getD .skip) := by kernel_rfl
theorem run31 {Γ : G} (hsp : SpOK Try.prog Γ.sp) {args : List AV} {h : List AO} {own : Bool} {kn : Nat} {K : AV → List AO → Prop} (hl : args.length ≤ N31) (hk0 : Γ.k0 = hlen h) (hkn : hlen h ≤ kn)
    (hrun : run Γ c31 (leafK Γ.sp res31 own kn K) [] (leafK Γ.sp res31 own kn K) (argS 0 args) h) (htn : Γ.tn ≤ N31 := by exact Nat.zero_le _)
    (hrf : ∀ F, rfind Γ.rf F = true → FdIter Try.prog F ∧ ∀ args w, (callFunc F args).run Try.prog w = .ok (.enter F args) w := by exact fun F h => absurd h (show ¬ (false = true) from Bool.false_ne_true)) : ACalls Try.prog 31 args h K :=
  acalls_of_run (tiOf_ok _) hsp follows Try.func31 b31 (rs := Try.f31.results.toList) (Array.toArray_toList).symm (by kernel_rfl) (by kernel_rfl) c31_ok (by kernel_rfl) hl hk0 htn hrf hkn hrun
theorem in31 : ∀ args w, (callFunc 31 args).run Try.prog w = .ok (.enter 31 args) w := callFunc_enter Try.func31 (by kernel_rfl) (by kernel_rfl)

/-- (*sentinel/wire.Stream).Bad -/
def N32 : Nat := 7
def mu32 : List Nat := []
def keep32 : List Nat := [0, 2]
def res32 : List RV := [(.t 2)]
def c32 : CC :=
 (.seq (.reg [⟨(some 2), (.mov (.c (.bool false))), none, 2⟩]
 [])
 (.seq (.reg [⟨(some 3), (.mov (.t 0)), none, 2⟩, ⟨(some 4), (.nilck (.t 3)), none, 2⟩, ⟨(some 5), (.fad 2 (.t 4)), none, 2⟩, ⟨(some 6), (.load none (.t 5)), none, 2⟩, ⟨(some 2), (.mov (.t 6)), none, 2⟩]
 [])
 .ret))
theorem c32_ok : comp (tiOf Try.prog) mu32 [19, 21, 22, 25, 34, 38, 41, 42, 43, 46, 50, 56, 57, 58, 59, 62, 63, 65, 66, 71, 72, 73, 74, 75, 76] N32 (Try.f32.body.getD .skip) = c32 := by kernel_rfl
theorem b32 : Try.f32.body = some (Try.f32.body.getD .skip) := by kernel_rfl
theorem run32 {Γ : G} (hsp : SpOK Try.prog Γ.sp) {args : List AV} {h : List AO} {own : Bool} {kn : Nat} {K : AV → List AO → Prop} (hl : args.length ≤ N32) (hk0 : Γ.k0 = hlen h) (hkn : hlen h ≤ kn)
    (hrun : run Γ c32 (leafK Γ.sp res32 own kn K) [] (leafK Γ.sp res32 own kn K) (argS 0 args) h) (htn : Γ.tn ≤ N32 := by exact Nat.zero_le _)
    (hrf : ∀ F, rfind Γ.rf F = true → FdIter Try.prog F ∧ ∀ args w, (callFunc F args).run Try.prog w = .ok (.enter F args) w := by exact fun F h => absurd h (show ¬ (false = true) from Bool.false_ne_true)) : ACalls Try.prog 32 args h K :=
  acalls_of_run (tiOf_ok _) hsp follows Try.func32 b32 (rs := Try.f32.results.toList) (Array.toArray_toList).symm (by kernel_rfl) (by kernel_rfl) c32_ok (by kernel_rfl) hl hk0 htn hrf hkn hrun
theorem in32 : ∀ args w, (callFunc 32 args).run Try.prog w = .ok (.enter 32 args) w := callFunc_enter Try.func32 (by kernel_rfl) (by kernel_rfl)

/-- (*sentinel/sentinelref5.Stream).Bad -/
def N33 : Nat := 7
def mu33 : List Nat := []
def keep33 : List Nat := [0, 2]
def res33 : List RV := [(.t 2)]
def c33 : CC :=
 (.seq (.reg [⟨(some 2), (.mov (.c (.bool false))), none, 2⟩]
 [])
 (.seq (.reg [⟨(some 3), (.mov (.t 0)), none, 2⟩, ⟨(some 4), (.nilck (.t 3)), none, 2⟩, ⟨(some 5), (.fad 2 (.t 4)), none, 2⟩, ⟨(some 6), (.load none (.t 5)), none, 2⟩, ⟨(some 2), (.mov (.t 6)), none, 2⟩]
 [])
 .ret))
theorem c33_ok : comp (tiOf Try.prog) mu33 [19, 21, 22, 25, 34, 38, 41, 42, 43, 46, 50, 56, 57, 58, 59, 62, 63, 65, 66, 71, 72, 73, 74, 75, 76] N33 (Try.f33.body.getD .skip) = c33 := by kernel_rfl
theorem b33 : Try.f33.body = some (Try.f33.body.getD .skip) := by kernel_rfl
theorem run33 {Γ : G} (hsp : SpOK Try.prog Γ.sp) {args : List AV} {h : List AO} {own : Bool} {kn : Nat} {K : AV → List AO → Prop} (hl : args.length ≤ N33) (hk0 : Γ.k0 = hlen h) (hkn : hlen h ≤ kn)
    (hrun : run Γ c33 (leafK Γ.sp res33 own kn K) [] (leafK Γ.sp res33 own kn K) (argS 0 args) h) (htn : Γ.tn ≤ N33 := by exact Nat.zero_le _)
    (hrf : ∀ F, rfind Γ.rf F = true → FdIter Try.prog F ∧ ∀ args w, (callFunc F args).run Try.prog w = .ok (.enter F args) w := by exact fun F h => absurd h (show ¬ (false = true) from Bool.false_ne_true)) : ACalls Try.prog 33 args h K :=
  acalls_of_run (tiOf_ok _) hsp follows Try.func33 b33 (rs := Try.f33.results.toList) (Array.toArray_toList).symm (by kernel_rfl) (by kernel_rfl) c33_ok (by kernel_rfl) hl hk0 htn hrf hkn hrun
theorem in33 : ∀ args w, (callFunc 33 args).run Try.prog w = .ok (.enter 33 args) w := callFunc_enter Try.func33 (by kernel_rfl) (by kernel_rfl)

/-- sentinel/sentinellaw5.Record -/
def N34 : Nat := 57
def mu34 : List Nat := []
def keep34 : List Nat := [0, 1, 2, 6, 7]
def res34 : List RV := [(.c 6 (some 23))]
def c34 : CC :=
 (.seq (.reg [⟨(some 6), (.alloc (.agg [(.int 0), (.str []), (.sl true 0 0 (.agg []) true), (.u32 0), (.u32 0), (.u32 0), (.u32 0), (.u32 0), (.u32 0), (.u32 0), (.u32 0), (.u32 0), (.u32 0), (.u32 0), (.u32 0), (.u32 0), (.u32 0), (.u32 0), (.u32 0), (.sl true 0 0 (.agg []) true), (.int 0), (.int 0), (.int 0)])), none, 2⟩]
 [])
 (.seq (.reg [⟨(some 8), (.mov (.t 0)), none, 2⟩, ⟨(some 9), (.call (.c (.fn 22 [])) [(.t 8), (.c (.int 2))]), none, 2⟩, ⟨(some 10), (.bin .add (.c (.int 1)) (.t 9)), none, 2⟩, ⟨(some 11), (.mov (.t 1)), none, 2⟩, ⟨(some 12), (.call (.c (.fn 42 [])) [(.t 11)]), none, 2⟩, ⟨(some 13), (.mov (.t 0)), none, 2⟩, ⟨(some 14), (.bin .quo (.t 13) (.c (.int 2))), none, 2⟩, ⟨(some 15), (.call (.c (.fn 22 [])) [(.t 14), (.c (.int 4294967296))]), none, 2⟩, ⟨(some 16), (.call (.c (.fn 24 [])) [(.t 15)]), none, 2⟩, ⟨(some 17), (.mov (.t 0)), none, 2⟩, ⟨(some 18), (.bin .quo (.t 17) (.c (.int 7))), none, 2⟩, ⟨(some 19), (.call (.c (.fn 22 [])) [(.t 18), (.c (.int 4294967296))]), none, 2⟩, ⟨(some 20), (.call (.c (.fn 24 [])) [(.t 19)]), none, 2⟩, ⟨(some 21), (.mov (.t 0)), none, 2⟩, ⟨(some 22), (.bin .quo (.t 21) (.c (.int 11))), none, 2⟩, ⟨(some 23), (.call (.c (.fn 22 [])) [(.t 22), (.c (.int 6))]), none, 2⟩, ⟨(some 24), (.mov (.t 0)), none, 2⟩, ⟨(some 25), (.bin .quo (.t 24) (.c (.int 13))), none, 2⟩, ⟨(some 26), (.call (.c (.fn 22 [])) [(.t 25), (.c (.int 1000))]), none, 2⟩, ⟨(some 27), (.mov (.t 0)), none, 2⟩, ⟨(some 28), (.bin .quo (.t 27) (.c (.int 17))), none, 2⟩, ⟨(some 29), (.call (.c (.fn 22 [])) [(.t 28), (.c (.int 1099511627776))]), none, 2⟩, ⟨(some 30), (.build [(.int 0), (.str []), (.sl true 0 0 (.agg []) true), (.u32 0), (.u32 0), (.u32 0), (.u32 0), (.u32 0), (.u32 0), (.u32 0), (.u32 0), (.u32 0), (.u32 0), (.u32 0), (.u32 0), (.u32 0), (.u32 0), (.u32 0), (.u32 0), (.sl true 0 0 (.agg []) true), (.int 0), (.int 0), (.int 0)] [(0, (1, (.t 10))), (1, (1, (.t 12))), (3, (8, (.t 16))), (11, (8, (.t 20))), (20, (1, (.t 23))), (21, (1, (.t 26))), (22, (1, (.t 29)))]), none, 2⟩, ⟨(some 7), (.alloc (.agg [(.int 0), (.str []), (.sl true 0 0 (.agg []) true), (.u32 0), (.u32 0), (.u32 0), (.u32 0), (.u32 0), (.u32 0), (.u32 0), (.u32 0), (.u32 0), (.u32 0), (.u32 0), (.u32 0), (.u32 0), (.u32 0), (.u32 0), (.u32 0), (.sl true 0 0 (.agg []) true), (.int 0), (.int 0), (.int 0)])), none, 2⟩, ⟨none, (.store (some 23) (.t 7) (.t 30)), none, 2⟩]
 [])
 (.seq (.reg [⟨(some 31), (.fad 2 (.t 7)), none, 0⟩, ⟨(some 32), (.load none (.t 31)), none, 1⟩, ⟨(some 33), (.mov (.t 2)), none, 0⟩, ⟨(some 34), (.mov (.t 0)), none, 0⟩, ⟨(some 35), (.mov (.t 2)), none, 0⟩, ⟨(some 36), (.len false (.t 35)), none, 0⟩, ⟨(some 37), (.mn (.t 36) (.c (.int 16))), none, 0⟩, ⟨(some 38), (.bin .add (.t 37) (.c (.int 1))), none, 0⟩, ⟨(some 39), (.call (.c (.fn 22 [])) [(.t 34), (.t 38)]), none, 0⟩, ⟨(some 40), (.slcS 1 (.t 33) none (some (.t 39)) none), none, 0⟩, ⟨(some 41), (.app true 1 1 (.t 32) (.t 40)), none, 2⟩, ⟨(some 42), (.fad 2 (.t 7)), none, 0⟩, ⟨none, (.store none (.t 42) (.t 41)), none, 2⟩]
 [])
 (.seq (.reg [⟨(some 43), (.fad 19 (.t 7)), none, 0⟩, ⟨(some 44), (.load none (.t 43)), none, 1⟩, ⟨(some 45), (.mov (.t 2)), none, 0⟩, ⟨(some 46), (.mov (.t 0)), none, 0⟩, ⟨(some 47), (.bin .quo (.t 46) (.c (.int 3))), none, 0⟩, ⟨(some 48), (.mov (.t 2)), none, 0⟩, ⟨(some 49), (.len false (.t 48)), none, 0⟩, ⟨(some 50), (.mn (.t 49) (.c (.int 48))), none, 0⟩, ⟨(some 51), (.bin .add (.t 50) (.c (.int 1))), none, 0⟩, ⟨(some 52), (.call (.c (.fn 22 [])) [(.t 47), (.t 51)]), none, 0⟩, ⟨(some 53), (.slcS 1 (.t 45) none (some (.t 52)) none), none, 0⟩, ⟨(some 54), (.app true 1 1 (.t 44) (.t 53)), none, 2⟩, ⟨(some 55), (.fad 19 (.t 7)), none, 0⟩, ⟨none, (.store none (.t 55) (.t 54)), none, 2⟩]
 [])
 (.seq (.reg [⟨(some 56), (.load (some 23) (.t 7)), none, 2⟩, ⟨none, (.store (some 23) (.t 6) (.t 56)), none, 2⟩]
 [])
 .ret)))))
theorem c34_ok : comp (tiOf Try.prog) mu34 [19, 21, 22, 25, 34, 38, 41, 42, 43, 46, 50, 56, 57, 58, 59, 62, 63, 65, 66, 71, 72, 73, 74, 75, 76] N34 (Try.f34.body.getD .skip) = c34 := by kernel_rfl
theorem b34 : Try.f34.body = some (Try.f34.body.getD .skip) := by kernel_rfl
theorem run34 {Γ : G} (hsp : SpOK Try.prog Γ.sp) {args : List AV} {h : List AO} {own : Bool} {kn : Nat} {K : AV → List AO → Prop} (hl : args.length ≤ N34) (hk0 : Γ.k0 = hlen h) (hkn : hlen h ≤ kn)
    (hrun : run Γ c34 (leafK Γ.sp res34 own kn K) [] (leafK Γ.sp res34 own kn K) (argS 0 args) h) (htn : Γ.tn ≤ N34 := by exact Nat.zero_le _)
    (hrf : ∀ F, rfind Γ.rf F = true → FdIter Try.prog F ∧ ∀ args w, (callFunc F args).run Try.prog w = .ok (.enter F args) w := by exact fun F h => absurd h (show ¬ (false = true) from Bool.false_ne_true)) : ACalls Try.prog 34 args h K :=
  acalls_of_run (tiOf_ok _) hsp follows Try.func34 b34 (rs := Try.f34.results.toList) (Array.toArray_toList).symm (by kernel_rfl) (by kernel_rfl) c34_ok (by kernel_rfl) hl hk0 htn hrf hkn hrun
theorem in34 : ∀ args w, (callFunc 34 args).run Try.prog w = .ok (.enter 34 args) w := callFunc_enter Try.func34 (by kernel_rfl) (by kernel_rfl)

/-- sentinel/wire.Record -/
def N35 : Nat := 119
def mu35 : List Nat := []
def keep35 : List Nat := [0, 1, 2, 3, 4, 6, 64, 76, 77, 78, 79]
def res35 : List RV := [(.t 2), (.t 3)]
def c35 : CC :=
 (.seq (.reg [⟨(some 1), (.box (.t 0)), none, 2⟩, ⟨(some 2), (.mov (.c (.sl true 0 0 (.agg []) true))), none, 2⟩, ⟨(some 3), (.mov (.c (.bool false))), none, 2⟩]
 [])
 (.seq (.seq (.reg [⟨(some 7), (.fad 0 (.t 1)), none, 2⟩, ⟨(some 8), (.load none (.t 7)), none, 2⟩, ⟨(some 9), (.eq true .sc (.t 8) (.c (.int 1))), none, 2⟩, ⟨(some 10), (.mov (.t 9)), none, 2⟩, ⟨(some 11), (.fad 0 (.t 1)), (some (10, true)), 2⟩, ⟨(some 12), (.load none (.t 11)), (some (10, true)), 2⟩, ⟨(some 13), (.eq true .sc (.t 12) (.c (.int 2))), (some (10, true)), 2⟩, ⟨(some 14), (.pick (.t 10) (.t 13) (.c (.bool false))), none, 2⟩, ⟨(some 15), (.mov (.t 14)), none, 2⟩, ⟨(some 16), (.fad 1 (.t 1)), (some (15, false)), 2⟩, ⟨(some 17), (.load none (.t 16)), (some (15, false)), 2⟩, ⟨(some 18), (.call (.c (.fn 60 [])) [(.t 17)]), (some (15, false)), 2⟩, ⟨(some 19), (.un .not (.t 18)), (some (15, false)), 2⟩, ⟨(some 20), (.pick (.t 15) (.c (.bool true)) (.t 19)), none, 2⟩, ⟨(some 21), (.mov (.t 20)), none, 2⟩, ⟨(some 22), (.fad 2 (.t 1)), (some (21, false)), 2⟩, ⟨(some 23), (.load none (.t 22)), (some (21, false)), 2⟩, ⟨(some 24), (.len false (.t 23)), (some (21, false)), 2⟩, ⟨(some 25), (.bin .gtr (.t 24) (.c (.int 16))), (some (21, false)), 2⟩, ⟨(some 26), (.pick (.t 21) (.c (.bool true)) (.t 25)), none, 2⟩, ⟨(some 27), (.mov (.t 26)), none, 2⟩, ⟨(some 28), (.fad 19 (.t 1)), (some (27, false)), 2⟩, ⟨(some 29), (.load none (.t 28)), (some (27, false)), 2⟩, ⟨(some 30), (.len false (.t 29)), (some (27, false)), 2⟩, ⟨(some 31), (.bin .gtr (.t 30) (.c (.int 48))), (some (27, false)), 2⟩, ⟨(some 32), (.pick (.t 27) (.c (.bool true)) (.t 31)), none, 2⟩, ⟨(some 33), (.mov (.t 32)), none, 2⟩, ⟨(some 34), (.fad 3 (.t 1)), (some (33, false)), 2⟩, ⟨(some 35), (.load (some 8) (.t 34)), (some (33, false)), 2⟩, ⟨(some 36), (.call (.c (.fn 61 [])) [(.t 35)]), (some (33, false)), 2⟩, ⟨(some 37), (.bin .gtr (.t 36) (.c (.int 32))), (some (33, false)), 2⟩, ⟨(some 38), (.pick (.t 33) (.c (.bool true)) (.t 37)), none, 2⟩, ⟨(some 39), (.mov (.t 38)), none, 2⟩, ⟨(some 40), (.fad 11 (.t 1)), (some (39, false)), 2⟩, ⟨(some 41), (.load (some 8) (.t 40)), (some (39, false)), 2⟩, ⟨(some 42), (.call (.c (.fn 61 [])) [(.t 41)]), (some (39, false)), 2⟩, ⟨(some 43), (.bin .gtr (.t 42) (.c (.int 32))), (some (39, false)), 2⟩, ⟨(some 44), (.pick (.t 39) (.c (.bool true)) (.t 43)), none, 2⟩, ⟨(some 45), (.mov (.t 44)), none, 2⟩, ⟨(some 46), (.fad 20 (.t 1)), (some (45, false)), 2⟩, ⟨(some 47), (.load none (.t 46)), (some (45, false)), 2⟩, ⟨(some 48), (.bin .lss (.t 47) (.c (.int 0))), (some (45, false)), 2⟩, ⟨(some 49), (.pick (.t 45) (.c (.bool true)) (.t 48)), none, 2⟩, ⟨(some 50), (.mov (.t 49)), none, 2⟩, ⟨(some 51), (.fad 20 (.t 1)), (some (50, false)), 2⟩, ⟨(some 52), (.load none (.t 51)), (some (50, false)), 2⟩, ⟨(some 53), (.bin .gtr (.t 52) (.c (.int 255))), (some (50, false)), 2⟩, ⟨(some 54), (.pick (.t 50) (.c (.bool true)) (.t 53)), none, 2⟩, ⟨(some 55), (.mov (.t 54)), none, 2⟩, ⟨(some 56), (.fad 21 (.t 1)), (some (55, false)), 2⟩, ⟨(some 57), (.load none (.t 56)), (some (55, false)), 2⟩, ⟨(some 58), (.bin .lss (.t 57) (.c (.int 0))), (some (55, false)), 2⟩, ⟨(some 59), (.pick (.t 55) (.c (.bool true)) (.t 58)), none, 2⟩, ⟨(some 60), (.mov (.t 59)), none, 2⟩, ⟨(some 61), (.fad 22 (.t 1)), (some (60, false)), 2⟩, ⟨(some 62), (.load none (.t 61)), (some (60, false)), 2⟩, ⟨(some 63), (.bin .lss (.t 62) (.c (.int 0))), (some (60, false)), 2⟩, ⟨(some 64), (.pick (.t 60) (.c (.bool true)) (.t 63)), none, 2⟩]
 [])
 (.cond (.t 64)
 (.seq (.reg [⟨(some 2), (.mov (.c (.sl true 0 0 (.agg []) true))), none, 2⟩, ⟨(some 3), (.mov (.c (.bool false))), none, 2⟩]
 [])
 .ret)
 .skip))
 (.seq (.reg [⟨(some 65), (.fad 0 (.t 1)), none, 2⟩, ⟨(some 66), (.load none (.t 65)), none, 2⟩, ⟨(some 67), (.conv .iu8 (.t 66)), none, 2⟩, ⟨(some 68), (.bsl false .u8 1 1 [(.u8 0)] [(0, (1, (.t 67)))]), none, 2⟩, ⟨(some 4), (.mov (.t 68)), none, 2⟩]
 [])
 (.seq (.seq (.reg [⟨(some 69), (.fad 1 (.t 1)), none, 2⟩, ⟨(some 70), (.load none (.t 69)), none, 2⟩, ⟨(some 71), (.conv (.strb false) (.t 70)), none, 2⟩, ⟨(some 72), (.fad 2 (.t 1)), none, 2⟩, ⟨(some 73), (.load none (.t 72)), none, 2⟩, ⟨(some 74), (.fad 19 (.t 1)), none, 2⟩, ⟨(some 75), (.load none (.t 74)), none, 2⟩, ⟨(some 76), (.bsl false .other 1 3 [(.sl true 0 0 (.agg []) true)] [(0, (1, (.t 71))), (1, (1, (.t 73))), (2, (1, (.t 75)))]), none, 2⟩, ⟨(some 77), (.len false (.t 76)), none, 2⟩, ⟨(some 78), (.mov (.c (.int 0))), none, 2⟩]
 [])
 (.block 0 (.loop (.seq (.reg [⟨(some 79), (.bin .lss (.t 78) (.t 77)), none, 2⟩]
 [])
 (.seq (.cond (.t 79)
 .skip
 (.exit 0))
 (.seq (.block 1 (.seq (.reg [⟨(some 80), (.iadS 1 (.t 76) (.t 78)), none, 2⟩, ⟨(some 81), (.load none (.t 80)), none, 2⟩, ⟨(some 6), (.mov (.t 81)), none, 2⟩]
 [])
 (.reg [⟨(some 82), (.mov (.t 4)), none, 2⟩, ⟨(some 83), (.mov (.t 6)), none, 2⟩, ⟨(some 84), (.len false (.t 83)), none, 2⟩, ⟨(some 85), (.conv .iu8 (.t 84)), none, 2⟩, ⟨(some 86), (.bsl false .u8 1 1 [(.u8 0)] [(0, (1, (.t 85)))]), none, 2⟩, ⟨(some 87), (.app true 1 1 (.t 82) (.t 86)), none, 2⟩, ⟨(some 88), (.mov (.t 6)), none, 2⟩, ⟨(some 89), (.app true 1 1 (.t 87) (.t 88)), none, 2⟩, ⟨(some 4), (.mov (.t 89)), none, 2⟩]
 [])))
 (.reg [⟨(some 90), (.bin .add (.t 78) (.c (.int 1))), none, 2⟩, ⟨(some 78), (.mov (.t 90)), none, 2⟩]
 [])))))))
 (.seq (.reg [⟨(some 91), (.mov (.t 4)), none, 0⟩, ⟨(some 92), (.fad 3 (.t 1)), none, 0⟩, ⟨(some 93), (.load (some 8) (.t 92)), none, 1⟩, ⟨(some 94), (.call (.c (.fn 62 [])) [(.t 93), (.c (.int 4))]), none, 0⟩, ⟨(some 95), (.app true 1 1 (.t 91) (.t 94)), none, 2⟩, ⟨(some 96), (.fad 11 (.t 1)), none, 0⟩, ⟨(some 97), (.load (some 8) (.t 96)), none, 1⟩, ⟨(some 98), (.call (.c (.fn 62 [])) [(.t 97), (.c (.int 4))]), none, 0⟩, ⟨(some 99), (.app true 1 1 (.t 95) (.t 98)), none, 2⟩, ⟨(some 4), (.mov (.t 99)), none, 0⟩]
 [(96, 91)])
 (.seq (.reg [⟨(some 100), (.mov (.t 4)), none, 2⟩, ⟨(some 101), (.fad 20 (.t 1)), none, 2⟩, ⟨(some 102), (.load none (.t 101)), none, 2⟩, ⟨(some 103), (.conv .iu8 (.t 102)), none, 2⟩, ⟨(some 104), (.bsl false .u8 1 1 [(.u8 0)] [(0, (1, (.t 103)))]), none, 2⟩, ⟨(some 105), (.app true 1 1 (.t 100) (.t 104)), none, 2⟩, ⟨(some 4), (.mov (.t 105)), none, 2⟩]
 [])
 (.seq (.reg [⟨(some 106), (.mov (.t 4)), none, 0⟩, ⟨(some 107), (.fad 21 (.t 1)), none, 0⟩, ⟨(some 108), (.load none (.t 107)), none, 1⟩, ⟨(some 109), (.call (.c (.fn 63 [])) [(.t 108)]), none, 0⟩, ⟨(some 110), (.call (.c (.fn 62 [])) [(.t 109), (.c (.int 8))]), none, 0⟩, ⟨(some 111), (.app true 1 1 (.t 106) (.t 110)), none, 2⟩, ⟨(some 112), (.fad 22 (.t 1)), none, 0⟩, ⟨(some 113), (.load none (.t 112)), none, 1⟩, ⟨(some 114), (.call (.c (.fn 63 [])) [(.t 113)]), none, 0⟩, ⟨(some 115), (.call (.c (.fn 62 [])) [(.t 114), (.c (.int 8))]), none, 0⟩, ⟨(some 116), (.app true 1 1 (.t 111) (.t 115)), none, 2⟩, ⟨(some 4), (.mov (.t 116)), none, 0⟩]
 [(112, 106)])
 (.seq (.reg [⟨(some 117), (.mov (.t 4)), none, 2⟩, ⟨(some 118), (.call (.c (.fn 64 [])) [(.t 117)]), none, 2⟩, ⟨(some 2), (.mov (.t 118)), none, 2⟩, ⟨(some 3), (.mov (.c (.bool true))), none, 2⟩]
 [])
 .ret))))))))
theorem c35_ok : comp (tiOf Try.prog) mu35 [19, 21, 22, 25, 34, 38, 41, 42, 43, 46, 50, 56, 57, 58, 59, 62, 63, 65, 66, 71, 72, 73, 74, 75, 76] N35 (Try.f35.body.getD .skip) = c35 := by kernel_rfl
theorem b35 : Try.f35.body = some (Try.f35.body.getD .skip) := by kernel_rfl
theorem run35 {Γ : G} (hsp : SpOK Try.prog Γ.sp) {args : List AV} {h : List AO} {own : Bool} {kn : Nat} {K : AV → List AO → Prop} (hl : args.length ≤ N35) (hk0 : Γ.k0 = hlen h) (hkn : hlen h ≤ kn)
    (hrun : run Γ c35 (leafK Γ.sp res35 own kn K) [] (leafK Γ.sp res35 own kn K) (argS 0 args) h) (htn : Γ.tn ≤ N35 := by exact Nat.zero_le _)
    (hrf : ∀ F, rfind Γ.rf F = true → FdIter Try.prog F ∧ ∀ args w, (callFunc F args).run Try.prog w = .ok (.enter F args) w := by exact fun F h => absurd h (show ¬ (false = true) from Bool.false_ne_true)) : ACalls Try.prog 35 args h K :=
  acalls_of_run (tiOf_ok _) hsp follows Try.func35 b35 (rs := Try.f35.results.toList) (Array.toArray_toList).symm (by kernel_rfl) (by kernel_rfl) c35_ok (by kernel_rfl) hl hk0 htn hrf hkn hrun
theorem in35 : ∀ args w, (callFunc 35 args).run Try.prog w = .ok (.enter 35 args) w := callFunc_enter Try.func35 (by kernel_rfl) (by kernel_rfl)

/-- sentinel/sentinelref5.Record -/
def N36 : Nat := 118
def mu36 : List Nat := []
def keep36 : List Nat := [0, 1, 2, 3, 4, 62]
def res36 : List RV := [(.t 2), (.t 3)]
def c36 : CC :=
 (.seq (.reg [⟨(some 1), (.box (.t 0)), none, 2⟩, ⟨(some 2), (.mov (.c (.sl true 0 0 (.agg []) true))), none, 2⟩, ⟨(some 3), (.mov (.c (.bool false))), none, 2⟩]
 [])
 (.seq (.seq (.reg [⟨(some 5), (.fad 0 (.t 1)), none, 2⟩, ⟨(some 6), (.load none (.t 5)), none, 2⟩, ⟨(some 7), (.bin .lss (.t 6) (.c (.int 1))), none, 2⟩, ⟨(some 8), (.mov (.t 7)), none, 2⟩, ⟨(some 9), (.fad 0 (.t 1)), (some (8, false)), 2⟩, ⟨(some 10), (.load none (.t 9)), (some (8, false)), 2⟩, ⟨(some 11), (.bin .gtr (.t 10) (.c (.int 2))), (some (8, false)), 2⟩, ⟨(some 12), (.pick (.t 8) (.c (.bool true)) (.t 11)), none, 2⟩, ⟨(some 13), (.mov (.t 12)), none, 2⟩, ⟨(some 14), (.fad 1 (.t 1)), (some (13, false)), 2⟩, ⟨(some 15), (.load none (.t 14)), (some (13, false)), 2⟩, ⟨(some 16), (.call (.c (.fn 58 [])) [(.t 15)]), (some (13, false)), 2⟩, ⟨(some 17), (.un .not (.t 16)), (some (13, false)), 2⟩, ⟨(some 18), (.pick (.t 13) (.c (.bool true)) (.t 17)), none, 2⟩, ⟨(some 19), (.mov (.t 18)), none, 2⟩, ⟨(some 20), (.fad 2 (.t 1)), (some (19, false)), 2⟩, ⟨(some 21), (.load none (.t 20)), (some (19, false)), 2⟩, ⟨(some 22), (.len false (.t 21)), (some (19, false)), 2⟩, ⟨(some 23), (.bin .gtr (.t 22) (.c (.int 16))), (some (19, false)), 2⟩, ⟨(some 24), (.pick (.t 19) (.c (.bool true)) (.t 23)), none, 2⟩, ⟨(some 25), (.mov (.t 24)), none, 2⟩, ⟨(some 26), (.fad 19 (.t 1)), (some (25, false)), 2⟩, ⟨(some 27), (.load none (.t 26)), (some (25, false)), 2⟩, ⟨(some 28), (.len false (.t 27)), (some (25, false)), 2⟩, ⟨(some 29), (.bin .gtr (.t 28) (.c (.int 48))), (some (25, false)), 2⟩, ⟨(some 30), (.pick (.t 25) (.c (.bool true)) (.t 29)), none, 2⟩, ⟨(some 31), (.mov (.t 30)), none, 2⟩, ⟨(some 32), (.fad 3 (.t 1)), (some (31, false)), 2⟩, ⟨(some 33), (.load (some 8) (.t 32)), (some (31, false)), 2⟩, ⟨(some 34), (.call (.c (.fn 59 [])) [(.t 33)]), (some (31, false)), 2⟩, ⟨(some 35), (.un .not (.t 34)), (some (31, false)), 2⟩, ⟨(some 36), (.pick (.t 31) (.c (.bool true)) (.t 35)), none, 2⟩, ⟨(some 37), (.mov (.t 36)), none, 2⟩, ⟨(some 38), (.fad 11 (.t 1)), (some (37, false)), 2⟩, ⟨(some 39), (.load (some 8) (.t 38)), (some (37, false)), 2⟩, ⟨(some 40), (.call (.c (.fn 59 [])) [(.t 39)]), (some (37, false)), 2⟩, ⟨(some 41), (.un .not (.t 40)), (some (37, false)), 2⟩, ⟨(some 42), (.pick (.t 37) (.c (.bool true)) (.t 41)), none, 2⟩, ⟨(some 43), (.mov (.t 42)), none, 2⟩, ⟨(some 44), (.fad 20 (.t 1)), (some (43, false)), 2⟩, ⟨(some 45), (.load none (.t 44)), (some (43, false)), 2⟩, ⟨(some 46), (.bin .lss (.t 45) (.c (.int 0))), (some (43, false)), 2⟩, ⟨(some 47), (.pick (.t 43) (.c (.bool true)) (.t 46)), none, 2⟩, ⟨(some 48), (.mov (.t 47)), none, 2⟩, ⟨(some 49), (.fad 20 (.t 1)), (some (48, false)), 2⟩, ⟨(some 50), (.load none (.t 49)), (some (48, false)), 2⟩, ⟨(some 51), (.bin .gtr (.t 50) (.c (.int 255))), (some (48, false)), 2⟩, ⟨(some 52), (.pick (.t 48) (.c (.bool true)) (.t 51)), none, 2⟩, ⟨(some 53), (.mov (.t 52)), none, 2⟩, ⟨(some 54), (.fad 21 (.t 1)), (some (53, false)), 2⟩, ⟨(some 55), (.load none (.t 54)), (some (53, false)), 2⟩, ⟨(some 56), (.bin .lss (.t 55) (.c (.int 0))), (some (53, false)), 2⟩, ⟨(some 57), (.pick (.t 53) (.c (.bool true)) (.t 56)), none, 2⟩, ⟨(some 58), (.mov (.t 57)), none, 2⟩, ⟨(some 59), (.fad 22 (.t 1)), (some (58, false)), 2⟩, ⟨(some 60), (.load none (.t 59)), (some (58, false)), 2⟩, ⟨(some 61), (.bin .lss (.t 60) (.c (.int 0))), (some (58, false)), 2⟩, ⟨(some 62), (.pick (.t 58) (.c (.bool true)) (.t 61)), none, 2⟩]
 [])
 (.cond (.t 62)
 (.seq (.reg [⟨(some 2), (.mov (.c (.sl true 0 0 (.agg []) true))), none, 2⟩, ⟨(some 3), (.mov (.c (.bool false))), none, 2⟩]
 [])
 .ret)
 .skip))
 (.seq (.reg [⟨(some 63), (.fad 0 (.t 1)), none, 2⟩, ⟨(some 64), (.load none (.t 63)), none, 2⟩, ⟨(some 65), (.conv .iu8 (.t 64)), none, 2⟩, ⟨(some 66), (.fad 1 (.t 1)), none, 2⟩, ⟨(some 67), (.load none (.t 66)), none, 2⟩, ⟨(some 68), (.len true (.t 67)), none, 2⟩, ⟨(some 69), (.conv .iu8 (.t 68)), none, 2⟩, ⟨(some 70), (.bsl false .u8 1 2 [(.u8 0)] [(0, (1, (.t 65))), (1, (1, (.t 69)))]), none, 2⟩, ⟨(some 71), (.fad 1 (.t 1)), none, 2⟩, ⟨(some 72), (.load none (.t 71)), none, 2⟩, ⟨(some 73), (.conv (.strb false) (.t 72)), none, 2⟩, ⟨(some 74), (.app true 1 1 (.t 70) (.t 73)), none, 2⟩, ⟨(some 4), (.mov (.t 74)), none, 2⟩]
 [])
 (.seq (.reg [⟨(some 75), (.mov (.t 4)), none, 0⟩, ⟨(some 76), (.fad 2 (.t 1)), none, 0⟩, ⟨(some 77), (.load none (.t 76)), none, 1⟩, ⟨(some 78), (.len false (.t 77)), none, 0⟩, ⟨(some 79), (.conv .iu8 (.t 78)), none, 0⟩, ⟨(some 80), (.bsl false .u8 1 1 [(.u8 0)] [(0, (1, (.t 79)))]), none, 0⟩, ⟨(some 81), (.app true 1 1 (.t 75) (.t 80)), none, 2⟩, ⟨(some 82), (.fad 2 (.t 1)), none, 0⟩, ⟨(some 83), (.load none (.t 82)), none, 1⟩, ⟨(some 84), (.app true 1 1 (.t 81) (.t 83)), none, 2⟩, ⟨(some 4), (.mov (.t 84)), none, 0⟩]
 [(82, 75)])
 (.seq (.reg [⟨(some 85), (.mov (.t 4)), none, 0⟩, ⟨(some 86), (.fad 19 (.t 1)), none, 0⟩, ⟨(some 87), (.load none (.t 86)), none, 1⟩, ⟨(some 88), (.len false (.t 87)), none, 0⟩, ⟨(some 89), (.conv .iu8 (.t 88)), none, 0⟩, ⟨(some 90), (.bsl false .u8 1 1 [(.u8 0)] [(0, (1, (.t 89)))]), none, 0⟩, ⟨(some 91), (.app true 1 1 (.t 85) (.t 90)), none, 2⟩, ⟨(some 92), (.fad 19 (.t 1)), none, 0⟩, ⟨(some 93), (.load none (.t 92)), none, 1⟩, ⟨(some 94), (.app true 1 1 (.t 91) (.t 93)), none, 2⟩, ⟨(some 4), (.mov (.t 94)), none, 0⟩]
 [(92, 85)])
 (.seq (.reg [⟨(some 95), (.mov (.t 4)), none, 0⟩, ⟨(some 96), (.fad 3 (.t 1)), none, 0⟩, ⟨(some 97), (.load (some 8) (.t 96)), none, 1⟩, ⟨(some 98), (.call (.c (.fn 65 [])) [(.t 97)]), none, 0⟩, ⟨(some 99), (.app true 1 1 (.t 95) (.t 98)), none, 2⟩, ⟨(some 100), (.fad 11 (.t 1)), none, 0⟩, ⟨(some 101), (.load (some 8) (.t 100)), none, 1⟩, ⟨(some 102), (.call (.c (.fn 65 [])) [(.t 101)]), none, 0⟩, ⟨(some 103), (.app true 1 1 (.t 99) (.t 102)), none, 2⟩, ⟨(some 104), (.fad 20 (.t 1)), none, 0⟩, ⟨(some 105), (.load none (.t 104)), none, 1⟩, ⟨(some 106), (.conv .iu8 (.t 105)), none, 0⟩, ⟨(some 107), (.bsl false .u8 1 1 [(.u8 0)] [(0, (1, (.t 106)))]), none, 0⟩, ⟨(some 108), (.app true 1 1 (.t 103) (.t 107)), none, 2⟩, ⟨(some 4), (.mov (.t 108)), none, 0⟩]
 [(100, 95), (104, 95), (104, 99)])
 (.seq (.reg [⟨(some 109), (.mov (.t 4)), none, 0⟩, ⟨(some 110), (.fad 21 (.t 1)), none, 0⟩, ⟨(some 111), (.load none (.t 110)), none, 1⟩, ⟨(some 112), (.call (.c (.fn 66 [])) [(.t 111)]), none, 0⟩, ⟨(some 113), (.app true 1 1 (.t 109) (.t 112)), none, 2⟩, ⟨(some 114), (.fad 22 (.t 1)), none, 0⟩, ⟨(some 115), (.load none (.t 114)), none, 1⟩, ⟨(some 116), (.call (.c (.fn 66 [])) [(.t 115)]), none, 0⟩, ⟨(some 117), (.app true 1 1 (.t 113) (.t 116)), none, 2⟩, ⟨(some 2), (.mov (.t 117)), none, 0⟩, ⟨(some 3), (.mov (.c (.bool true))), none, 0⟩]
 [(114, 109)])
 .ret)))))))
theorem c36_ok : comp (tiOf Try.prog) mu36 [19, 21, 22, 25, 34, 38, 41, 42, 43, 46, 50, 56, 57, 58, 59, 62, 63, 65, 66, 71, 72, 73, 74, 75, 76] N36 (Try.f36.body.getD .skip) = c36 := by kernel_rfl
theorem b36 : Try.f36.body = some (Try.f36.body.getD .skip) := by kernel_rfl
theorem run36 {Γ : G} (hsp : SpOK Try.prog Γ.sp) {args : List AV} {h : List AO} {own : Bool} {kn : Nat} {K : AV → List AO → Prop} (hl : args.length ≤ N36) (hk0 : Γ.k0 = hlen h) (hkn : hlen h ≤ kn)
    (hrun : run Γ c36 (leafK Γ.sp res36 own kn K) [] (leafK Γ.sp res36 own kn K) (argS 0 args) h) (htn : Γ.tn ≤ N36 := by exact Nat.zero_le _)
    (hrf : ∀ F, rfind Γ.rf F = true → FdIter Try.prog F ∧ ∀ args w, (callFunc F args).run Try.prog w = .ok (.enter F args) w := by exact fun F h => absurd h (show ¬ (false = true) from Bool.false_ne_true)) : ACalls Try.prog 36 args h K :=
  acalls_of_run (tiOf_ok _) hsp follows Try.func36 b36 (rs := Try.f36.results.toList) (Array.toArray_toList).symm (by kernel_rfl) (by kernel_rfl) c36_ok (by kernel_rfl) hl hk0 htn hrf hkn hrun
theorem in36 : ∀ args w, (callFunc 36 args).run Try.prog w = .ok (.enter 36 args) w := callFunc_enter Try.func36 (by kernel_rfl) (by kernel_rfl)

/-- sentinel/wire.ReadRecord -/
def N37 : Nat := 60
def mu37 : List Nat := []
def keep37 : List Nat := [0, 2, 3, 4, 5, 6, 7, 57]
def res37 : List RV := [(.c 2 (some 23)), (.t 3)]
def c37 : CC :=
 (.seq (.reg [⟨(some 2), (.alloc (.agg [(.int 0), (.str []), (.sl true 0 0 (.agg []) true), (.u32 0), (.u32 0), (.u32 0), (.u32 0), (.u32 0), (.u32 0), (.u32 0), (.u32 0), (.u32 0), (.u32 0), (.u32 0), (.u32 0), (.u32 0), (.u32 0), (.u32 0), (.u32 0), (.sl true 0 0 (.agg []) true), (.int 0), (.int 0), (.int 0)])), none, 2⟩, ⟨(some 3), (.mov (.c (.bool false))), none, 2⟩]
 [])
 (.seq (.reg [⟨(some 8), (.mov (.t 0)), none, 2⟩, ⟨(some 9), (.build [(.sl true 0 0 (.agg []) true), (.bool false)] [(0, (1, (.t 8)))]), none, 2⟩, ⟨(some 10), (.box (.t 9)), none, 2⟩, ⟨(some 4), (.mov (.t 10)), none, 2⟩]
 [])
 (.seq (.reg [⟨(some 11), (.mov (.t 4)), none, 2⟩, ⟨(some 12), (.call (.c (.fn 52 [])) [(.t 11), (.c (.int 1))]), none, 2⟩, ⟨(some 13), (.build [(.int 0), (.str []), (.sl true 0 0 (.agg []) true), (.u32 0), (.u32 0), (.u32 0), (.u32 0), (.u32 0), (.u32 0), (.u32 0), (.u32 0), (.u32 0), (.u32 0), (.u32 0), (.u32 0), (.u32 0), (.u32 0), (.u32 0), (.u32 0), (.sl true 0 0 (.agg []) true), (.int 0), (.int 0), (.int 0)] [(0, (1, (.t 12)))]), none, 2⟩, ⟨(some 5), (.alloc (.agg [(.int 0), (.str []), (.sl true 0 0 (.agg []) true), (.u32 0), (.u32 0), (.u32 0), (.u32 0), (.u32 0), (.u32 0), (.u32 0), (.u32 0), (.u32 0), (.u32 0), (.u32 0), (.u32 0), (.u32 0), (.u32 0), (.u32 0), (.u32 0), (.sl true 0 0 (.agg []) true), (.int 0), (.int 0), (.int 0)])), none, 2⟩, ⟨none, (.store (some 23) (.t 5) (.t 13)), none, 2⟩]
 [])
 (.seq (.reg [⟨(some 14), (.mov (.t 4)), none, 2⟩, ⟨(some 15), (.call (.c (.fn 54 [])) [(.t 14)]), none, 2⟩, ⟨(some 16), (.conv .bstr (.t 15)), none, 2⟩, ⟨(some 17), (.fad 1 (.t 5)), none, 2⟩, ⟨none, (.store none (.t 17) (.t 16)), none, 2⟩]
 [])
 (.seq (.reg [⟨(some 18), (.mov (.t 4)), none, 2⟩, ⟨(some 19), (.call (.c (.fn 54 [])) [(.t 18)]), none, 2⟩, ⟨(some 20), (.fad 2 (.t 5)), none, 2⟩, ⟨none, (.store none (.t 20) (.t 19)), none, 2⟩]
 [])
 (.seq (.reg [⟨(some 21), (.mov (.t 4)), none, 2⟩, ⟨(some 22), (.call (.c (.fn 54 [])) [(.t 21)]), none, 2⟩, ⟨(some 23), (.fad 19 (.t 5)), none, 2⟩, ⟨none, (.store none (.t 23) (.t 22)), none, 2⟩]
 [])
 (.seq (.reg [⟨(some 24), (.mov (.t 4)), none, 2⟩, ⟨(some 25), (.call (.c (.fn 67 [])) [(.t 24), (.c (.int 4))]), none, 2⟩, ⟨(some 26), (.fad 3 (.t 5)), none, 2⟩, ⟨none, (.store (some 8) (.t 26) (.t 25)), none, 2⟩]
 [])
 (.seq (.reg [⟨(some 27), (.mov (.t 4)), none, 2⟩, ⟨(some 28), (.call (.c (.fn 67 [])) [(.t 27), (.c (.int 4))]), none, 2⟩, ⟨(some 29), (.fad 11 (.t 5)), none, 2⟩, ⟨none, (.store (some 8) (.t 29) (.t 28)), none, 2⟩]
 [])
 (.seq (.reg [⟨(some 30), (.mov (.t 4)), none, 2⟩, ⟨(some 31), (.call (.c (.fn 52 [])) [(.t 30), (.c (.int 1))]), none, 2⟩, ⟨(some 32), (.fad 20 (.t 5)), none, 2⟩, ⟨none, (.store none (.t 32) (.t 31)), none, 2⟩]
 [])
 (.seq (.reg [⟨(some 33), (.mov (.t 4)), none, 2⟩, ⟨(some 34), (.call (.c (.fn 52 [])) [(.t 33), (.c (.int 8))]), none, 2⟩, ⟨(some 35), (.fad 21 (.t 5)), none, 2⟩, ⟨none, (.store none (.t 35) (.t 34)), none, 2⟩]
 [])
 (.seq (.reg [⟨(some 36), (.mov (.t 4)), none, 2⟩, ⟨(some 37), (.call (.c (.fn 52 [])) [(.t 36), (.c (.int 8))]), none, 2⟩, ⟨(some 38), (.fad 22 (.t 5)), none, 2⟩, ⟨none, (.store none (.t 38) (.t 37)), none, 2⟩]
 [])
 (.seq (.reg [⟨(some 40), (.load (some 23) (.t 5)), none, 2⟩, ⟨(some 41), (.call (.c (.fn 35 [])) [(.t 40)]), none, 2⟩, ⟨(some 39), (.mov (.t 41)), none, 2⟩, ⟨(some 42), (.ext (.t 39) 0), none, 2⟩, ⟨(some 43), (.ext (.t 39) 1), none, 2⟩, ⟨(some 6), (.mov (.t 42)), none, 2⟩, ⟨(some 7), (.mov (.t 43)), none, 2⟩]
 [])
 (.seq (.seq (.reg [⟨(some 44), (.mov (.t 7)), none, 2⟩, ⟨(some 45), (.un .not (.t 44)), none, 2⟩, ⟨(some 46), (.mov (.t 45)), none, 2⟩, ⟨(some 47), (.mov (.t 4)), (some (46, false)), 2⟩, ⟨(some 48), (.nilck (.t 47)), (some (46, false)), 2⟩, ⟨(some 49), (.fad 1 (.t 48)), (some (46, false)), 2⟩, ⟨(some 50), (.load none (.t 49)), (some (46, false)), 2⟩, ⟨(some 51), (.pick (.t 46) (.c (.bool true)) (.t 50)), none, 2⟩, ⟨(some 52), (.mov (.t 51)), none, 2⟩, ⟨(some 53), (.mov (.t 6)), (some (52, false)), 2⟩, ⟨(some 54), (.mov (.t 0)), (some (52, false)), 2⟩, ⟨(some 55), (.call (.c (.fn 55 [])) [(.t 53), (.t 54)]), (some (52, false)), 2⟩, ⟨(some 56), (.un .not (.t 55)), (some (52, false)), 2⟩, ⟨(some 57), (.pick (.t 52) (.c (.bool true)) (.t 56)), none, 2⟩]
 [])
 (.cond (.t 57)
 (.seq (.reg [⟨(some 58), (.build [(.int 0), (.str []), (.sl true 0 0 (.agg []) true), (.u32 0), (.u32 0), (.u32 0), (.u32 0), (.u32 0), (.u32 0), (.u32 0), (.u32 0), (.u32 0), (.u32 0), (.u32 0), (.u32 0), (.u32 0), (.u32 0), (.u32 0), (.u32 0), (.sl true 0 0 (.agg []) true), (.int 0), (.int 0), (.int 0)] []), none, 2⟩, ⟨none, (.store (some 23) (.t 2) (.t 58)), none, 2⟩, ⟨(some 3), (.mov (.c (.bool false))), none, 2⟩]
 [])
 .ret)
 .skip))
 (.seq (.reg [⟨(some 59), (.load (some 23) (.t 5)), none, 2⟩, ⟨none, (.store (some 23) (.t 2) (.t 59)), none, 2⟩, ⟨(some 3), (.mov (.c (.bool true))), none, 2⟩]
 [])
 .ret))))))))))))))
theorem c37_ok : comp (tiOf Try.prog) mu37 [19, 21, 22, 25, 34, 38, 41, 42, 43, 46, 50, 56, 57, 58, 59, 62, 63, 65, 66, 71, 72, 73, 74, 75, 76] N37 (Try.f37.body.getD .skip) = c37 := by kernel_rfl
theorem b37 : Try.f37.body = some (Try.f37.body.getD .skip) := by kernel_rfl
theorem run37 {Γ : G} (hsp : SpOK Try.prog Γ.sp) {args : List AV} {h : List AO} {own : Bool} {kn : Nat} {K : AV → List AO → Prop} (hl : args.length ≤ N37) (hk0 : Γ.k0 = hlen h) (hkn : hlen h ≤ kn)
    (hrun : run Γ c37 (leafK Γ.sp res37 own kn K) [] (leafK Γ.sp res37 own kn K) (argS 0 args) h) (htn : Γ.tn ≤ N37 := by exact Nat.zero_le _)
    (hrf : ∀ F, rfind Γ.rf F = true → FdIter Try.prog F ∧ ∀ args w, (callFunc F args).run Try.prog w = .ok (.enter F args) w := by exact fun F h => absurd h (show ¬ (false = true) from Bool.false_ne_true)) : ACalls Try.prog 37 args h K :=
  acalls_of_run (tiOf_ok _) hsp follows Try.func37 b37 (rs := Try.f37.results.toList) (Array.toArray_toList).symm (by kernel_rfl) (by kernel_rfl) c37_ok (by kernel_rfl) hl hk0 htn hrf hkn hrun
theorem in37 : ∀ args w, (callFunc 37 args).run Try.prog w = .ok (.enter 37 args) w := callFunc_enter Try.func37 (by kernel_rfl) (by kernel_rfl)

/-- sentinel/sentinelref5.Records -/
def N38 : Nat := 70
def mu38 : List Nat := []
def keep38 : List Nat := [0, 1, 2, 3, 4]
def res38 : List RV := [(.t 4)]
def c38 : CC :=
 (.seq (.reg [⟨(some 2), (.box (.t 0)), none, 2⟩, ⟨(some 3), (.box (.t 1)), none, 2⟩, ⟨(some 4), (.mov (.c (.bool false))), none, 2⟩]
 [])
 (.seq (.reg [⟨(some 5), (.fad 0 (.t 2)), none, 2⟩, ⟨(some 6), (.load none (.t 5)), none, 2⟩, ⟨(some 7), (.fad 0 (.t 3)), none, 2⟩, ⟨(some 8), (.load none (.t 7)), none, 2⟩, ⟨(some 9), (.eq false .sc (.t 6) (.t 8)), none, 2⟩, ⟨(some 10), (.mov (.t 9)), none, 2⟩, ⟨(some 11), (.fad 1 (.t 2)), (some (10, true)), 2⟩, ⟨(some 12), (.load none (.t 11)), (some (10, true)), 2⟩, ⟨(some 13), (.fad 1 (.t 3)), (some (10, true)), 2⟩, ⟨(some 14), (.load none (.t 13)), (some (10, true)), 2⟩, ⟨(some 15), (.eq false .sc (.t 12) (.t 14)), (some (10, true)), 2⟩, ⟨(some 16), (.pick (.t 10) (.t 15) (.c (.bool false))), none, 2⟩, ⟨(some 17), (.mov (.t 16)), none, 2⟩, ⟨(some 18), (.fad 2 (.t 2)), (some (17, true)), 2⟩, ⟨(some 19), (.load none (.t 18)), (some (17, true)), 2⟩, ⟨(some 20), (.conv .bstr (.t 19)), (some (17, true)), 2⟩, ⟨(some 21), (.fad 2 (.t 3)), (some (17, true)), 2⟩, ⟨(some 22), (.load none (.t 21)), (some (17, true)), 2⟩, ⟨(some 23), (.conv .bstr (.t 22)), (some (17, true)), 2⟩, ⟨(some 24), (.eq false .sc (.t 20) (.t 23)), (some (17, true)), 2⟩, ⟨(some 25), (.pick (.t 17) (.t 24) (.c (.bool false))), none, 2⟩, ⟨(some 26), (.mov (.t 25)), none, 2⟩, ⟨(some 27), (.fad 3 (.t 2)), (some (26, true)), 2⟩, ⟨(some 28), (.load (some 8) (.t 27)), (some (26, true)), 2⟩, ⟨(some 29), (.fad 3 (.t 3)), (some (26, true)), 2⟩, ⟨(some 30), (.load (some 8) (.t 29)), (some (26, true)), 2⟩, ⟨(some 31), (.eq false (.arr 8) (.t 28) (.t 30)), (some (26, true)), 2⟩, ⟨(some 32), (.pick (.t 26) (.t 31) (.c (.bool false))), none, 2⟩, ⟨(some 33), (.mov (.t 32)), none, 2⟩, ⟨(some 34), (.fad 11 (.t 2)), (some (33, true)), 2⟩, ⟨(some 35), (.load (some 8) (.t 34)), (some (33, true)), 2⟩, ⟨(some 36), (.fad 11 (.t 3)), (some (33, true)), 2⟩, ⟨(some 37), (.load (some 8) (.t 36)), (some (33, true)), 2⟩, ⟨(some 38), (.eq false (.arr 8) (.t 35) (.t 37)), (some (33, true)), 2⟩, ⟨(some 39), (.pick (.t 33) (.t 38) (.c (.bool false))), none, 2⟩, ⟨(some 40), (.mov (.t 39)), none, 2⟩, ⟨(some 41), (.fad 19 (.t 2)), (some (40, true)), 2⟩, ⟨(some 42), (.load none (.t 41)), (some (40, true)), 2⟩, ⟨(some 43), (.conv .bstr (.t 42)), (some (40, true)), 2⟩, ⟨(some 44), (.fad 19 (.t 3)), (some (40, true)), 2⟩, ⟨(some 45), (.load none (.t 44)), (some (40, true)), 2⟩, ⟨(some 46), (.conv .bstr (.t 45)), (some (40, true)), 2⟩, ⟨(some 47), (.eq false .sc (.t 43) (.t 46)), (some (40, true)), 2⟩, ⟨(some 48), (.pick (.t 40) (.t 47) (.c (.bool false))), none, 2⟩, ⟨(some 49), (.mov (.t 48)), none, 2⟩, ⟨(some 50), (.fad 20 (.t 2)), (some (49, true)), 2⟩, ⟨(some 51), (.load none (.t 50)), (some (49, true)), 2⟩, ⟨(some 52), (.fad 20 (.t 3)), (some (49, true)), 2⟩, ⟨(some 53), (.load none (.t 52)), (some (49, true)), 2⟩, ⟨(some 54), (.eq false .sc (.t 51) (.t 53)), (some (49, true)), 2⟩, ⟨(some 55), (.pick (.t 49) (.t 54) (.c (.bool false))), none, 2⟩, ⟨(some 56), (.mov (.t 55)), none, 2⟩, ⟨(some 57), (.fad 21 (.t 2)), (some (56, true)), 2⟩, ⟨(some 58), (.load none (.t 57)), (some (56, true)), 2⟩, ⟨(some 59), (.fad 21 (.t 3)), (some (56, true)), 2⟩, ⟨(some 60), (.load none (.t 59)), (some (56, true)), 2⟩, ⟨(some 61), (.eq false .sc (.t 58) (.t 60)), (some (56, true)), 2⟩, ⟨(some 62), (.pick (.t 56) (.t 61) (.c (.bool false))), none, 2⟩, ⟨(some 63), (.mov (.t 62)), none, 2⟩, ⟨(some 64), (.fad 22 (.t 2)), (some (63, true)), 2⟩, ⟨(some 65), (.load none (.t 64)), (some (63, true)), 2⟩, ⟨(some 66), (.fad 22 (.t 3)), (some (63, true)), 2⟩, ⟨(some 67), (.load none (.t 66)), (some (63, true)), 2⟩, ⟨(some 68), (.eq false .sc (.t 65) (.t 67)), (some (63, true)), 2⟩, ⟨(some 69), (.pick (.t 63) (.t 68) (.c (.bool false))), none, 2⟩, ⟨(some 4), (.mov (.t 69)), none, 2⟩]
 [])
 .ret))
theorem c38_ok : comp (tiOf Try.prog) mu38 [19, 21, 22, 25, 34, 38, 41, 42, 43, 46, 50, 56, 57, 58, 59, 62, 63, 65, 66, 71, 72, 73, 74, 75, 76] N38 (Try.f38.body.getD .skip) = c38 := by kernel_rfl
theorem b38 : Try.f38.body = some (Try.f38.body.getD .skip) := by kernel_rfl
theorem run38 {Γ : G} (hsp : SpOK Try.prog Γ.sp) {args : List AV} {h : List AO} {own : Bool} {kn : Nat} {K : AV → List AO → Prop} (hl : args.length ≤ N38) (hk0 : Γ.k0 = hlen h) (hkn : hlen h ≤ kn)
    (hrun : run Γ c38 (leafK Γ.sp res38 own kn K) [] (leafK Γ.sp res38 own kn K) (argS 0 args) h) (htn : Γ.tn ≤ N38 := by exact Nat.zero_le _)
    (hrf : ∀ F, rfind Γ.rf F = true → FdIter Try.prog F ∧ ∀ args w, (callFunc F args).run Try.prog w = .ok (.enter F args) w := by exact fun F h => absurd h (show ¬ (false = true) from Bool.false_ne_true)) : ACalls Try.prog 38 args h K :=
  acalls_of_run (tiOf_ok _) hsp follows Try.func38 b38 (rs := Try.f38.results.toList) (Array.toArray_toList).symm (by kernel_rfl) (by kernel_rfl) c38_ok (by kernel_rfl) hl hk0 htn hrf hkn hrun
theorem in38 : ∀ args w, (callFunc 38 args).run Try.prog w = .ok (.enter 38 args) w := callFunc_enter Try.func38 (by kernel_rfl) (by kernel_rfl)


end Go.Abs
