/-
  Own work. Conditions: none. The code of the functions of this seat in the short form. (Own work; printed by our own program.)
-/
import Derived.Test.YtmgefdndbcgoiaaAbsC
import Derived.Test.YtmgefdndbcgoiaaProg
import Derived.KernelRfl
set_option linter.unusedVariables false
set_option linter.unusedSimpArgs false
set_option linter.unnecessarySimpa false
namespace Go.Abs
open Go.Proofs
set_option maxRecDepth 100000
theorem follows : Try.prog.follows .mixedOrders = true := by kernel_rfl
def pures : List Nat := [19, 21, 22, 25, 34, 38, 41, 42, 43, 46, 50, 56, 57, 58, 59, 62, 63, 65, 66, 71, 72, 73, 74, 75, 76]
-- sentinel/sentinellaw5.known
def N15 : Nat := 100
def keep15 : List Nat := [0, 1, 2, 3, 5, 6, 7, 8, 9, 10, 11, 19]
def res15 : List RV := [(.t 0)]
def c15 : CC :=
 (.seq (.reg [⟨(some 0), (.mov (.c (.bool false))), none, 2⟩] [])
 (.seq (.reg [⟨(some 13), (.build [(.int 0), (.int 0), (.int 0), (.int 0), (.str []), (.u32 0), (.u32 0), (.u32 0), (.u32 0), (.u32 0), (.u32 0), (.u32 0), (.u32 0), (.u32 0), (.u32 0), (.u32 0), (.u32 0), (.u32 0), (.u32 0), (.u32 0), (.u32 0), (.sl true 0 0 (.agg []) true), (.sl true 0 0 (.agg []) true), (.sl true 0 0 (.agg []) true), (.sl true 0 0 (.agg []) true), (.sl true 0 0 (.agg []) true)] [(0, (1, (.c (.int 7))))]), none, 2⟩, ⟨(some 14), (.call (.c (.fn 17 [])) [(.t 13)]), none, 2⟩, ⟨(some 12), (.mov (.t 14)), none, 2⟩, ⟨(some 15), (.ext (.t 12) 0), none, 2⟩, ⟨(some 16), (.ext (.t 12) 1), none, 2⟩, ⟨(some 1), (.mov (.t 15)), none, 2⟩, ⟨(some 2), (.mov (.t 16)), none, 2⟩] [])
 (.seq (.reg [⟨(some 17), (.call (.c (.fn 26 [])) []), none, 2⟩, ⟨(some 3), (.mov (.t 17)), none, 2⟩] [])
 (.seq (.seq (.reg [⟨(some 18), (.mov (.t 3)), none, 2⟩, ⟨(some 19), (.eq false .ptr (.t 18) (.c .nilp)), none, 2⟩] [])
 (.cond (.t 19)
 (.seq (.reg [⟨(some 0), (.mov (.c (.bool false))), none, 2⟩] [])
 .ret)
 .skip))
 (.seq (.reg [⟨(some 20), (.mov (.t 3)), none, 2⟩, ⟨(some 21), (.mov (.t 1)), none, 2⟩, ⟨(some 22), (.mov (.t 1)), none, 2⟩, ⟨(some 23), (.len false (.t 22)), none, 2⟩, ⟨(some 24), (.mn (.c (.int 1)) (.t 23)), none, 2⟩, ⟨(some 25), (.slcS 1 (.t 21) none (some (.t 24)) none), none, 2⟩, ⟨(some 26), (.call (.c (.fn 28 [])) [(.t 20), (.t 25)]), none, 2⟩] [])
 (.seq (.reg [⟨(some 28), (.mov (.t 3)), none, 2⟩, ⟨(some 29), (.call (.c (.fn 30 [])) [(.t 28)]), none, 2⟩, ⟨(some 27), (.mov (.t 29)), none, 2⟩, ⟨(some 30), (.ext (.t 27) 0), none, 2⟩, ⟨(some 31), (.ext (.t 27) 1), none, 2⟩, ⟨(some 4), (.alloc (.agg [(.int 0), (.int 0), (.int 0), (.int 0), (.str []), (.u32 0), (.u32 0), (.u32 0), (.u32 0), (.u32 0), (.u32 0), (.u32 0), (.u32 0), (.u32 0), (.u32 0), (.u32 0), (.u32 0), (.u32 0), (.u32 0), (.u32 0), (.u32 0), (.sl true 0 0 (.agg []) true), (.sl true 0 0 (.agg []) true), (.sl true 0 0 (.agg []) true), (.sl true 0 0 (.agg []) true), (.sl true 0 0 (.agg []) true)])), none, 2⟩, ⟨none, (.store (some 26) (.t 4) (.t 30)), none, 2⟩, ⟨(some 5), (.mov (.t 31)), none, 2⟩] [])
 (.seq (.reg [⟨(some 32), (.mov (.t 3)), none, 2⟩, ⟨(some 33), (.mov (.t 1)), none, 2⟩, ⟨(some 34), (.mov (.t 1)), none, 2⟩, ⟨(some 35), (.len false (.t 34)), none, 2⟩, ⟨(some 36), (.mn (.c (.int 1)) (.t 35)), none, 2⟩, ⟨(some 37), (.slcS 1 (.t 33) (some (.t 36)) none none), none, 2⟩, ⟨(some 38), (.call (.c (.fn 28 [])) [(.t 32), (.t 37)]), none, 2⟩] [])
 (.seq (.reg [⟨(some 40), (.mov (.t 3)), none, 2⟩, ⟨(some 41), (.call (.c (.fn 30 [])) [(.t 40)]), none, 2⟩, ⟨(some 39), (.mov (.t 41)), none, 2⟩, ⟨(some 42), (.ext (.t 39) 0), none, 2⟩, ⟨(some 43), (.ext (.t 39) 1), none, 2⟩, ⟨(some 6), (.alloc (.agg [(.int 0), (.int 0), (.int 0), (.int 0), (.str []), (.u32 0), (.u32 0), (.u32 0), (.u32 0), (.u32 0), (.u32 0), (.u32 0), (.u32 0), (.u32 0), (.u32 0), (.u32 0), (.u32 0), (.u32 0), (.u32 0), (.u32 0), (.u32 0), (.sl true 0 0 (.agg []) true), (.sl true 0 0 (.agg []) true), (.sl true 0 0 (.agg []) true), (.sl true 0 0 (.agg []) true), (.sl true 0 0 (.agg []) true)])), none, 2⟩, ⟨none, (.store (some 26) (.t 6) (.t 42)), none, 2⟩, ⟨(some 7), (.mov (.t 43)), none, 2⟩] [])
 (.seq (.reg [⟨(some 45), (.build [(.int 0), (.str []), (.sl true 0 0 (.agg []) true), (.u32 0), (.u32 0), (.u32 0), (.u32 0), (.u32 0), (.u32 0), (.u32 0), (.u32 0), (.u32 0), (.u32 0), (.u32 0), (.u32 0), (.u32 0), (.u32 0), (.u32 0), (.u32 0), (.sl true 0 0 (.agg []) true), (.int 0), (.int 0), (.int 0)] [(0, (1, (.c (.int 1)))), (1, (1, (.c (.str [97]))))]), none, 2⟩, ⟨(some 46), (.call (.c (.fn 35 [])) [(.t 45)]), none, 2⟩, ⟨(some 44), (.mov (.t 46)), none, 2⟩, ⟨(some 47), (.ext (.t 44) 0), none, 2⟩, ⟨(some 48), (.ext (.t 44) 1), none, 2⟩, ⟨(some 8), (.mov (.t 47)), none, 2⟩, ⟨(some 9), (.mov (.t 48)), none, 2⟩] [])
 (.seq (.reg [⟨(some 50), (.mov (.t 8)), none, 2⟩, ⟨(some 51), (.call (.c (.fn 37 [])) [(.t 50)]), none, 2⟩, ⟨(some 49), (.mov (.t 51)), none, 2⟩, ⟨(some 52), (.ext (.t 49) 0), none, 2⟩, ⟨(some 53), (.ext (.t 49) 1), none, 2⟩, ⟨(some 10), (.alloc (.agg [(.int 0), (.str []), (.sl true 0 0 (.agg []) true), (.u32 0), (.u32 0), (.u32 0), (.u32 0), (.u32 0), (.u32 0), (.u32 0), (.u32 0), (.u32 0), (.u32 0), (.u32 0), (.u32 0), (.u32 0), (.u32 0), (.u32 0), (.u32 0), (.sl true 0 0 (.agg []) true), (.int 0), (.int 0), (.int 0)])), none, 2⟩, ⟨none, (.store (some 23) (.t 10) (.t 52)), none, 2⟩, ⟨(some 11), (.mov (.t 53)), none, 2⟩] [])
 (.seq (.reg [⟨(some 54), (.mov (.t 2)), none, 2⟩, ⟨(some 55), (.mov (.t 54)), none, 2⟩, ⟨(some 56), (.mov (.t 1)), (some (55, true)), 2⟩, ⟨(some 57), (.len false (.t 56)), (some (55, true)), 2⟩, ⟨(some 58), (.eq false .sc (.t 57) (.c (.int 3))), (some (55, true)), 2⟩, ⟨(some 59), (.pick (.t 55) (.t 58) (.c (.bool false))), none, 2⟩, ⟨(some 60), (.mov (.t 59)), none, 2⟩, ⟨(some 61), (.mov (.t 1)), (some (60, true)), 2⟩, ⟨(some 62), (.iadS 1 (.t 61) (.c (.int 1))), (some (60, true)), 2⟩, ⟨(some 63), (.load none (.t 62)), (some (60, true)), 2⟩, ⟨(some 64), (.eq false .sc (.t 63) (.c (.u8 1))), (some (60, true)), 2⟩, ⟨(some 65), (.pick (.t 60) (.t 64) (.c (.bool false))), none, 2⟩, ⟨(some 66), (.mov (.t 65)), none, 2⟩, ⟨(some 67), (.mov (.t 1)), (some (66, true)), 2⟩, ⟨(some 68), (.iadS 1 (.t 67) (.c (.int 2))), (some (66, true)), 2⟩, ⟨(some 69), (.load none (.t 68)), (some (66, true)), 2⟩, ⟨(some 70), (.eq false .sc (.t 69) (.c (.u8 7))), (some (66, true)), 2⟩, ⟨(some 71), (.pick (.t 66) (.t 70) (.c (.bool false))), none, 2⟩, ⟨(some 72), (.mov (.t 71)), none, 2⟩, ⟨(some 73), (.mov (.t 5)), (some (72, true)), 2⟩, ⟨(some 74), (.un .not (.t 73)), (some (72, true)), 2⟩, ⟨(some 75), (.pick (.t 72) (.t 74) (.c (.bool false))), none, 2⟩, ⟨(some 76), (.mov (.t 75)), none, 2⟩, ⟨(some 77), (.mov (.t 7)), (some (76, true)), 2⟩, ⟨(some 78), (.pick (.t 76) (.t 77) (.c (.bool false))), none, 2⟩, ⟨(some 79), (.mov (.t 78)), none, 2⟩, ⟨(some 80), (.fad 0 (.t 6)), (some (79, true)), 2⟩, ⟨(some 81), (.load none (.t 80)), (some (79, true)), 2⟩, ⟨(some 82), (.eq false .sc (.t 81) (.c (.int 7))), (some (79, true)), 2⟩, ⟨(some 83), (.pick (.t 79) (.t 82) (.c (.bool false))), none, 2⟩, ⟨(some 84), (.mov (.t 83)), none, 2⟩, ⟨(some 85), (.mov (.t 3)), (some (84, true)), 2⟩, ⟨(some 86), (.call (.c (.fn 32 [])) [(.t 85)]), (some (84, true)), 2⟩, ⟨(some 87), (.un .not (.t 86)), (some (84, true)), 2⟩, ⟨(some 88), (.pick (.t 84) (.t 87) (.c (.bool false))), none, 2⟩, ⟨(some 89), (.mov (.t 88)), none, 2⟩, ⟨(some 90), (.mov (.t 9)), (some (89, true)), 2⟩, ⟨(some 91), (.pick (.t 89) (.t 90) (.c (.bool false))), none, 2⟩, ⟨(some 92), (.mov (.t 91)), none, 2⟩, ⟨(some 93), (.mov (.t 11)), (some (92, true)), 2⟩, ⟨(some 94), (.pick (.t 92) (.t 93) (.c (.bool false))), none, 2⟩, ⟨(some 95), (.mov (.t 94)), none, 2⟩, ⟨(some 96), (.fad 1 (.t 10)), (some (95, true)), 2⟩, ⟨(some 97), (.load none (.t 96)), (some (95, true)), 2⟩, ⟨(some 98), (.eq false .sc (.t 97) (.c (.str [97]))), (some (95, true)), 2⟩, ⟨(some 99), (.pick (.t 95) (.t 98) (.c (.bool false))), none, 2⟩, ⟨(some 0), (.mov (.t 99)), none, 2⟩] [])
 .ret)))))))))))
theorem o15 : FnOK Try.prog 15 N15 res15 c15 := ⟨_, _, Try.f15.results.toList, [], pures, Try.func15, show _ = some (Try.f15.body.getD .skip) by kernel_rfl, (Array.toArray_toList).symm, by kernel_rfl, by kernel_rfl, by kernel_rfl, by kernel_rfl, follows, callFunc_enter Try.func15 (by kernel_rfl) (by kernel_rfl)⟩
-- sentinel/sentinellaw5.Make
def N16 : Nat := 132
def keep16 : List Nat := [0, 1, 2, 3, 8, 9, 10, 11, 12, 30, 31, 41, 44, 51, 62, 68, 77, 83, 89, 100, 111, 118]
def res16 : List RV := [(.c 8 (some 26))]
def c16 : CC :=
 (.seq (.reg [⟨(some 8), (.alloc (.agg [(.int 0), (.int 0), (.int 0), (.int 0), (.str []), (.u32 0), (.u32 0), (.u32 0), (.u32 0), (.u32 0), (.u32 0), (.u32 0), (.u32 0), (.u32 0), (.u32 0), (.u32 0), (.u32 0), (.u32 0), (.u32 0), (.u32 0), (.u32 0), (.sl true 0 0 (.agg []) true), (.sl true 0 0 (.agg []) true), (.sl true 0 0 (.agg []) true), (.sl true 0 0 (.agg []) true), (.sl true 0 0 (.agg []) true)])), none, 2⟩] [])
 (.seq (.reg [⟨(some 13), (.mov (.t 0)), none, 2⟩, ⟨(some 14), (.call (.c (.fn 22 [])) [(.t 13), (.c (.int 12))]), none, 2⟩, ⟨(some 15), (.bin .add (.c (.int 1)) (.t 14)), none, 2⟩, ⟨(some 16), (.build [(.int 0), (.int 0), (.int 0), (.int 0), (.str []), (.u32 0), (.u32 0), (.u32 0), (.u32 0), (.u32 0), (.u32 0), (.u32 0), (.u32 0), (.u32 0), (.u32 0), (.u32 0), (.u32 0), (.u32 0), (.u32 0), (.u32 0), (.u32 0), (.sl true 0 0 (.agg []) true), (.sl true 0 0 (.agg []) true), (.sl true 0 0 (.agg []) true), (.sl true 0 0 (.agg []) true), (.sl true 0 0 (.agg []) true)] [(0, (1, (.t 15)))]), none, 2⟩, ⟨(some 9), (.alloc (.agg [(.int 0), (.int 0), (.int 0), (.int 0), (.str []), (.u32 0), (.u32 0), (.u32 0), (.u32 0), (.u32 0), (.u32 0), (.u32 0), (.u32 0), (.u32 0), (.u32 0), (.u32 0), (.u32 0), (.u32 0), (.u32 0), (.u32 0), (.u32 0), (.sl true 0 0 (.agg []) true), (.sl true 0 0 (.agg []) true), (.sl true 0 0 (.agg []) true), (.sl true 0 0 (.agg []) true), (.sl true 0 0 (.agg []) true)])), none, 2⟩, ⟨none, (.store (some 26) (.t 9) (.t 16)), none, 2⟩] [])
 (.seq (.reg [⟨(some 17), (.mov (.t 1)), none, 2⟩, ⟨(some 18), (.call (.c (.fn 22 [])) [(.t 17), (.c (.int 2))]), none, 2⟩, ⟨(some 19), (.bin .add (.c (.int 1)) (.t 18)), none, 2⟩, ⟨(some 10), (.mov (.t 19)), none, 2⟩] [])
 (.seq (.reg [⟨(some 20), (.mov (.t 1)), none, 2⟩, ⟨(some 21), (.call (.c (.fn 22 [])) [(.t 20), (.c (.int 4294967295))]), none, 2⟩, ⟨(some 22), (.bin .add (.c (.int 1)) (.t 21)), none, 2⟩, ⟨(some 23), (.call (.c (.fn 24 [])) [(.t 22)]), none, 2⟩, ⟨(some 11), (.alloc (.agg [(.u32 0), (.u32 0), (.u32 0), (.u32 0), (.u32 0), (.u32 0), (.u32 0), (.u32 0)])), none, 2⟩, ⟨none, (.store (some 8) (.t 11) (.t 23)), none, 2⟩] [])
 (.seq (.reg [⟨(some 24), (.mov (.t 1)), none, 2⟩, ⟨(some 25), (.bin .quo (.t 24) (.c (.int 3))), none, 2⟩, ⟨(some 26), (.call (.c (.fn 22 [])) [(.t 25), (.c (.int 70000))]), none, 2⟩, ⟨(some 27), (.bin .add (.c (.int 1)) (.t 26)), none, 2⟩, ⟨(some 28), (.call (.c (.fn 24 [])) [(.t 27)]), none, 2⟩, ⟨(some 12), (.alloc (.agg [(.u32 0), (.u32 0), (.u32 0), (.u32 0), (.u32 0), (.u32 0), (.u32 0), (.u32 0)])), none, 2⟩, ⟨none, (.store (some 8) (.t 12) (.t 28)), none, 2⟩] [])
 (.seq (.seq (.reg [⟨(some 29), (.fad 0 (.t 9)), none, 2⟩, ⟨(some 30), (.load none (.t 29)), none, 2⟩] [])
 (.block 0 (.seq (.reg [⟨(some 32), (.eq false .sc (.t 30) (.c (.int 1))), none, 2⟩, ⟨(some 31), (.mov (.t 32)), none, 2⟩] [])
 (.cond (.t 31)
 (.seq (.reg [⟨(some 33), (.mov (.t 10)), none, 0⟩, ⟨(some 34), (.mov (.t 2)), none, 0⟩, ⟨(some 35), (.call (.c (.fn 42 [])) [(.t 34)]), none, 0⟩, ⟨(some 36), (.load (some 8) (.t 11)), none, 1⟩, ⟨(some 37), (.fad 1 (.t 9)), none, 0⟩, ⟨none, (.store none (.t 37) (.t 33)), none, 2⟩, ⟨(some 38), (.fad 4 (.t 9)), none, 0⟩, ⟨none, (.store none (.t 38) (.t 35)), none, 2⟩, ⟨(some 39), (.fad 5 (.t 9)), none, 0⟩, ⟨none, (.store (some 8) (.t 39) (.t 36)), none, 2⟩]
 [(11, 37), (11, 38)])
 (.seq (.reg [⟨(some 40), (.mov (.t 10)), none, 2⟩, ⟨(some 41), (.eq false .sc (.t 40) (.c (.int 2))), none, 2⟩] [])
 (.cond (.t 41)
 (.reg [⟨(some 42), (.load (some 8) (.t 12)), none, 2⟩, ⟨(some 43), (.fad 13 (.t 9)), none, 2⟩, ⟨none, (.store (some 8) (.t 43) (.t 42)), none, 2⟩] [])
 .skip)))
 (.seq (.reg [⟨(some 45), (.eq false .sc (.t 30) (.c (.int 2))), none, 2⟩, ⟨(some 44), (.mov (.t 45)), none, 2⟩] [])
 (.cond (.t 44)
 (.seq (.reg [⟨(some 46), (.mov (.t 10)), none, 0⟩, ⟨(some 47), (.load (some 8) (.t 11)), none, 1⟩, ⟨(some 48), (.fad 1 (.t 9)), none, 0⟩, ⟨none, (.store none (.t 48) (.t 46)), none, 2⟩, ⟨(some 49), (.fad 13 (.t 9)), none, 0⟩, ⟨none, (.store (some 8) (.t 49) (.t 47)), none, 2⟩]
 [(11, 48)])
 (.seq (.reg [⟨(some 50), (.mov (.t 10)), none, 2⟩, ⟨(some 51), (.eq false .sc (.t 50) (.c (.int 2))), none, 2⟩] [])
 (.cond (.t 51)
 (.reg [⟨(some 52), (.load (some 8) (.t 12)), none, 1⟩, ⟨(some 53), (.mov (.t 3)), none, 0⟩, ⟨(some 54), (.mov (.t 1)), none, 0⟩, ⟨(some 55), (.call (.c (.fn 43 [])) [(.t 53), (.t 54), (.c (.int 48))]), none, 0⟩, ⟨(some 56), (.fad 5 (.t 9)), none, 0⟩, ⟨none, (.store (some 8) (.t 56) (.t 52)), none, 2⟩, ⟨(some 57), (.fad 22 (.t 9)), none, 0⟩, ⟨none, (.store none (.t 57) (.t 55)), none, 2⟩] [])
 (.reg [⟨(some 58), (.mov (.t 3)), none, 2⟩, ⟨(some 59), (.mov (.t 1)), none, 2⟩, ⟨(some 60), (.call (.c (.fn 43 [])) [(.t 58), (.t 59), (.c (.int 16))]), none, 2⟩, ⟨(some 61), (.fad 21 (.t 9)), none, 2⟩, ⟨none, (.store none (.t 61) (.t 60)), none, 2⟩] []))))
 (.seq (.reg [⟨(some 63), (.eq false .sc (.t 30) (.c (.int 3))), none, 2⟩, ⟨(some 62), (.mov (.t 63)), none, 2⟩] [])
 (.cond (.t 62)
 (.reg [⟨(some 64), (.mov (.t 3)), none, 2⟩, ⟨(some 65), (.mov (.t 1)), none, 2⟩, ⟨(some 66), (.call (.c (.fn 43 [])) [(.t 64), (.t 65), (.c (.int 16))]), none, 2⟩, ⟨(some 67), (.fad 23 (.t 9)), none, 2⟩, ⟨none, (.store none (.t 67) (.t 66)), none, 2⟩] [])
 (.seq (.reg [⟨(some 69), (.eq false .sc (.t 30) (.c (.int 4))), none, 2⟩, ⟨(some 68), (.mov (.t 69)), none, 2⟩] [])
 (.cond (.t 68)
 (.seq (.reg [⟨(some 70), (.mov (.t 3)), none, 2⟩, ⟨(some 71), (.mov (.t 1)), none, 2⟩, ⟨(some 72), (.call (.c (.fn 43 [])) [(.t 70), (.t 71), (.c (.int 80))]), none, 2⟩, ⟨(some 73), (.fad 24 (.t 9)), none, 2⟩, ⟨none, (.store none (.t 73) (.t 72)), none, 2⟩] [])
 (.seq (.reg [⟨(some 74), (.mov (.t 1)), none, 2⟩, ⟨(some 75), (.bin .quo (.t 74) (.c (.int 2))), none, 2⟩, ⟨(some 76), (.call (.c (.fn 22 [])) [(.t 75), (.c (.int 2))]), none, 2⟩, ⟨(some 77), (.eq false .sc (.t 76) (.c (.int 0))), none, 2⟩] [])
 (.cond (.t 77)
 (.reg [⟨(some 78), (.mov (.t 3)), none, 2⟩, ⟨(some 79), (.mov (.t 1)), none, 2⟩, ⟨(some 80), (.bin .quo (.t 79) (.c (.int 7))), none, 2⟩, ⟨(some 81), (.call (.c (.fn 43 [])) [(.t 78), (.t 80), (.c (.int 16))]), none, 2⟩, ⟨(some 82), (.fad 23 (.t 9)), none, 2⟩, ⟨none, (.store none (.t 82) (.t 81)), none, 2⟩] [])
 .skip)))
 (.seq (.reg [⟨(some 84), (.eq false .sc (.t 30) (.c (.int 5))), none, 2⟩, ⟨(some 83), (.mov (.t 84)), none, 2⟩] [])
 (.cond (.t 83)
 (.reg [⟨(some 85), (.mov (.t 1)), none, 2⟩, ⟨(some 86), (.call (.c (.fn 22 [])) [(.t 85), (.c (.int 11))]), none, 2⟩, ⟨(some 87), (.bin .add (.c (.int 1)) (.t 86)), none, 2⟩, ⟨(some 88), (.fad 3 (.t 9)), none, 2⟩, ⟨none, (.store none (.t 88) (.t 87)), none, 2⟩] [])
 (.seq (.reg [⟨(some 90), (.eq false .sc (.t 30) (.c (.int 6))), none, 2⟩, ⟨(some 89), (.mov (.t 90)), none, 2⟩] [])
 (.cond (.t 89)
 (.reg [⟨(some 91), (.mov (.t 10)), none, 2⟩, ⟨(some 92), (.mov (.t 2)), none, 2⟩, ⟨(some 93), (.call (.c (.fn 42 [])) [(.t 92)]), none, 2⟩, ⟨(some 94), (.mov (.t 3)), none, 2⟩, ⟨(some 95), (.mov (.t 1)), none, 2⟩, ⟨(some 96), (.call (.c (.fn 43 [])) [(.t 94), (.t 95), (.c (.int 120))]), none, 2⟩, ⟨(some 97), (.fad 1 (.t 9)), none, 2⟩, ⟨none, (.store none (.t 97) (.t 91)), none, 2⟩, ⟨(some 98), (.fad 4 (.t 9)), none, 2⟩, ⟨none, (.store none (.t 98) (.t 93)), none, 2⟩, ⟨(some 99), (.fad 25 (.t 9)), none, 2⟩, ⟨none, (.store none (.t 99) (.t 96)), none, 2⟩] [])
 (.seq (.seq (.reg [⟨(some 101), (.eq false .sc (.t 30) (.c (.int 8))), none, 2⟩, ⟨(some 100), (.mov (.t 101)), none, 2⟩] [])
 (.cond (.t 100)
 .skip
 (.reg [⟨(some 102), (.eq false .sc (.t 30) (.c (.int 12))), none, 2⟩, ⟨(some 100), (.mov (.t 102)), none, 2⟩] [])))
 (.cond (.t 100)
 (.reg [⟨(some 103), (.mov (.t 3)), none, 2⟩, ⟨(some 104), (.mov (.t 1)), none, 2⟩, ⟨(some 105), (.call (.c (.fn 43 [])) [(.t 103), (.t 104), (.c (.int 80))]), none, 2⟩, ⟨(some 106), (.mov (.t 1)), none, 2⟩, ⟨(some 107), (.call (.c (.fn 22 [])) [(.t 106), (.c (.int 1099511627776))]), none, 2⟩, ⟨(some 108), (.bin .add (.c (.int 1)) (.t 107)), none, 2⟩, ⟨(some 109), (.fad 24 (.t 9)), none, 2⟩, ⟨none, (.store none (.t 109) (.t 105)), none, 2⟩, ⟨(some 110), (.fad 2 (.t 9)), none, 2⟩, ⟨none, (.store none (.t 110) (.t 108)), none, 2⟩] [])
 (.seq (.seq (.reg [⟨(some 112), (.eq false .sc (.t 30) (.c (.int 9))), none, 2⟩, ⟨(some 111), (.mov (.t 112)), none, 2⟩] [])
 (.cond (.t 111)
 .skip
 (.reg [⟨(some 113), (.eq false .sc (.t 30) (.c (.int 10))), none, 2⟩, ⟨(some 111), (.mov (.t 113)), none, 2⟩] [])))
 (.cond (.t 111)
 (.reg [⟨(some 114), (.mov (.t 3)), none, 2⟩, ⟨(some 115), (.mov (.t 1)), none, 2⟩, ⟨(some 116), (.call (.c (.fn 43 [])) [(.t 114), (.t 115), (.c (.int 80))]), none, 2⟩, ⟨(some 117), (.fad 24 (.t 9)), none, 2⟩, ⟨none, (.store none (.t 117) (.t 116)), none, 2⟩] [])
 (.seq (.reg [⟨(some 119), (.eq false .sc (.t 30) (.c (.int 11))), none, 2⟩, ⟨(some 118), (.mov (.t 119)), none, 2⟩] [])
 (.cond (.t 118)
 (.reg [⟨(some 120), (.mov (.t 10)), none, 2⟩, ⟨(some 121), (.mov (.t 3)), none, 2⟩, ⟨(some 122), (.mov (.t 1)), none, 2⟩, ⟨(some 123), (.call (.c (.fn 43 [])) [(.t 121), (.t 122), (.c (.int 80))]), none, 2⟩, ⟨(some 124), (.mov (.t 3)), none, 2⟩, ⟨(some 125), (.mov (.t 1)), none, 2⟩, ⟨(some 126), (.bin .quo (.t 125) (.c (.int 5))), none, 2⟩, ⟨(some 127), (.call (.c (.fn 43 [])) [(.t 124), (.t 126), (.c (.int 110))]), none, 2⟩, ⟨(some 128), (.fad 1 (.t 9)), none, 2⟩, ⟨none, (.store none (.t 128) (.t 120)), none, 2⟩, ⟨(some 129), (.fad 24 (.t 9)), none, 2⟩, ⟨none, (.store none (.t 129) (.t 123)), none, 2⟩, ⟨(some 130), (.fad 25 (.t 9)), none, 2⟩, ⟨none, (.store none (.t 130) (.t 127)), none, 2⟩] [])
 .skip))))))))))))))))))))
 (.seq (.reg [⟨(some 131), (.load (some 26) (.t 9)), none, 2⟩, ⟨none, (.store (some 26) (.t 8) (.t 131)), none, 2⟩] [])
 .ret)))))))
theorem o16 : FnOK Try.prog 16 N16 res16 c16 := ⟨_, _, Try.f16.results.toList, [], pures, Try.func16, show _ = some (Try.f16.body.getD .skip) by kernel_rfl, (Array.toArray_toList).symm, by kernel_rfl, by kernel_rfl, by kernel_rfl, by kernel_rfl, follows, callFunc_enter Try.func16 (by kernel_rfl) (by kernel_rfl)⟩
-- sentinel/wire.Encode
def N17 : Nat := 47
def keep17 : List Nat := [0, 1, 2, 3, 4, 5, 8, 14, 15, 19, 35]
def res17 : List RV := [(.t 2), (.t 3)]
def c17 : CC :=
 (.seq (.reg [⟨(some 1), (.box (.t 0)), none, 2⟩, ⟨(some 2), (.mov (.c (.sl true 0 0 (.agg []) true))), none, 2⟩, ⟨(some 3), (.mov (.c (.bool false))), none, 2⟩] [])
 (.seq (.seq (.reg [⟨(some 6), (.load (some 26) (.t 1)), none, 2⟩, ⟨(some 7), (.call (.c (.fn 19 [])) [(.t 6)]), none, 2⟩, ⟨(some 8), (.un .not (.t 7)), none, 2⟩] [])
 (.cond (.t 8)
 (.seq (.reg [⟨(some 2), (.mov (.c (.sl true 0 0 (.agg []) true))), none, 2⟩, ⟨(some 3), (.mov (.c (.bool false))), none, 2⟩] [])
 .ret)
 .skip))
 (.seq (.reg [⟨(some 9), (.fad 0 (.t 1)), none, 2⟩, ⟨(some 10), (.load none (.t 9)), none, 2⟩, ⟨(some 11), (.conv .iu8 (.t 10)), none, 2⟩, ⟨(some 12), (.bsl true .u8 1 1 [(.u8 0)] [(0, (1, (.t 11)))]), none, 2⟩, ⟨(some 4), (.alloc (.agg [(.sl true 0 0 (.agg []) true)])), none, 2⟩, ⟨none, (.store none (.t 4) (.t 12)), none, 2⟩] [])
 (.seq (.seq (.reg [⟨(some 13), (.load (some 26) (.t 1)), none, 2⟩, ⟨(some 14), (.call (.c (.fn 44 [])) [(.t 13)]), none, 2⟩] [])
 (.block 0 (.rangeF (.t 14) [15] (.reg [⟨(some 5), (.alloc (.agg [(.int 0), (.sl true 0 0 (.agg []) true), (.bool false)])), none, 2⟩, ⟨none, (.store (some 3) (.t 5) (.t 15)), none, 2⟩] []) (.block 1 (.seq (.reg [⟨(some 16), (.fad 1 (.t 5)), none, 2⟩, ⟨(some 17), (.load none (.t 16)), none, 2⟩, ⟨(some 18), (.len false (.t 17)), none, 2⟩, ⟨(some 19), (.bin .gtr (.t 18) (.c (.int 0))), none, 2⟩] [])
 (.cond (.t 19)
 (.reg [⟨(some 20), (.load none (.t 4)), none, 1⟩, ⟨(some 21), (.fad 0 (.t 5)), none, 0⟩, ⟨(some 22), (.load none (.t 21)), none, 1⟩, ⟨(some 23), (.conv .iu8 (.t 22)), none, 0⟩, ⟨(some 24), (.fad 1 (.t 5)), none, 0⟩, ⟨(some 25), (.load none (.t 24)), none, 1⟩, ⟨(some 26), (.len false (.t 25)), none, 0⟩, ⟨(some 27), (.conv .iu8 (.t 26)), none, 0⟩, ⟨(some 28), (.bsl false .u8 1 2 [(.u8 0)] [(0, (1, (.t 23))), (1, (1, (.t 27)))]), none, 0⟩, ⟨(some 29), (.app true 1 1 (.t 20) (.t 28)), none, 2⟩, ⟨(some 30), (.fad 1 (.t 5)), none, 0⟩, ⟨(some 31), (.load none (.t 30)), none, 1⟩, ⟨(some 32), (.app true 1 1 (.t 29) (.t 31)), none, 2⟩, ⟨none, (.store none (.t 4) (.t 32)), none, 2⟩]
 [(30, 29)])
 .skip))))))
 (.seq (.seq (.reg [⟨(some 33), (.load none (.t 4)), none, 2⟩, ⟨(some 34), (.len false (.t 33)), none, 2⟩, ⟨(some 35), (.bin .gtr (.t 34) (.c (.int 200))), none, 2⟩] [])
 (.cond (.t 35)
 (.seq (.reg [⟨(some 2), (.mov (.c (.sl true 0 0 (.agg []) true))), none, 2⟩, ⟨(some 3), (.mov (.c (.bool false))), none, 2⟩] [])
 .ret)
 .skip))
 (.seq (.reg [⟨(some 36), (.load none (.t 4)), none, 2⟩, ⟨(some 37), (.len false (.t 36)), none, 2⟩, ⟨(some 38), (.bin .shr (.t 37) (.c (.u64 8))), none, 2⟩, ⟨(some 39), (.conv .iu8 (.t 38)), none, 2⟩, ⟨(some 40), (.load none (.t 4)), none, 2⟩, ⟨(some 41), (.len false (.t 40)), none, 2⟩, ⟨(some 42), (.conv .iu8 (.t 41)), none, 2⟩, ⟨(some 43), (.bsl false .u8 1 2 [(.u8 0)] [(0, (1, (.t 39))), (1, (1, (.t 42)))]), none, 2⟩, ⟨(some 44), (.load none (.t 4)), none, 2⟩, ⟨(some 45), (.bsl false .other 1 2 [(.sl true 0 0 (.agg []) true)] [(0, (1, (.t 43))), (1, (1, (.t 44)))]), none, 2⟩, ⟨(some 46), (.call (.c (.fn 45 [])) [(.t 45)]), none, 2⟩, ⟨(some 2), (.mov (.t 46)), none, 2⟩, ⟨(some 3), (.mov (.c (.bool true))), none, 2⟩] [])
 .ret))))))
theorem o17 : FnOK Try.prog 17 N17 res17 c17 := ⟨_, _, Try.f17.results.toList, [12], pures, Try.func17, show _ = some (Try.f17.body.getD .skip) by kernel_rfl, (Array.toArray_toList).symm, by kernel_rfl, by kernel_rfl, by kernel_rfl, by kernel_rfl, follows, callFunc_enter Try.func17 (by kernel_rfl) (by kernel_rfl)⟩
-- sentinel/sentinelref5.Encode
def N18 : Nat := 43
def keep18 : List Nat := [0, 1, 2, 3, 4, 5, 8, 14, 23, 32]
def res18 : List RV := [(.t 2), (.t 3)]
def c18 : CC :=
 (.seq (.reg [⟨(some 1), (.box (.t 0)), none, 2⟩, ⟨(some 2), (.mov (.c (.sl true 0 0 (.agg []) true))), none, 2⟩, ⟨(some 3), (.mov (.c (.bool false))), none, 2⟩] [])
 (.seq (.seq (.reg [⟨(some 6), (.load (some 26) (.t 1)), none, 2⟩, ⟨(some 7), (.call (.c (.fn 25 [])) [(.t 6)]), none, 2⟩, ⟨(some 8), (.un .not (.t 7)), none, 2⟩] [])
 (.cond (.t 8)
 (.seq (.reg [⟨(some 2), (.mov (.c (.sl true 0 0 (.agg []) true))), none, 2⟩, ⟨(some 3), (.mov (.c (.bool false))), none, 2⟩] [])
 .ret)
 .skip))
 (.seq (.reg [⟨(some 9), (.fad 0 (.t 1)), none, 2⟩, ⟨(some 10), (.load none (.t 9)), none, 2⟩, ⟨(some 11), (.conv .iu8 (.t 10)), none, 2⟩, ⟨(some 12), (.bsl true .u8 1 1 [(.u8 0)] [(0, (1, (.t 11)))]), none, 2⟩, ⟨(some 4), (.mov (.t 12)), none, 2⟩] [])
 (.seq (.seq (.reg [⟨(some 5), (.mov (.c (.int 1))), none, 2⟩] [])
 (.block 0 (.loop (.seq (.seq (.reg [⟨(some 13), (.mov (.t 5)), none, 2⟩, ⟨(some 14), (.bin .leq (.t 13) (.c (.int 11))), none, 2⟩] [])
 (.cond (.t 14)
 .skip
 (.exit 0)))
 (.seq (.block 1 (.seq (.reg [⟨(some 17), (.load (some 26) (.t 1)), none, 2⟩, ⟨(some 18), (.call (.c (.fn 46 [])) [(.t 17)]), none, 2⟩, ⟨(some 19), (.mov (.t 5)), none, 2⟩, ⟨(some 20), (.conv .iu64 (.t 19)), none, 2⟩, ⟨(some 21), (.bin .shr (.t 18) (.t 20)), none, 2⟩, ⟨(some 22), (.bin .and (.t 21) (.c (.int 1))), none, 2⟩, ⟨(some 23), (.bin .gtr (.t 22) (.c (.int 0))), none, 2⟩] [])
 (.cond (.t 23)
 (.reg [⟨(some 24), (.mov (.t 4)), none, 2⟩, ⟨(some 25), (.mov (.t 5)), none, 2⟩, ⟨(some 26), (.load (some 26) (.t 1)), none, 2⟩, ⟨(some 27), (.mov (.t 5)), none, 2⟩, ⟨(some 28), (.call (.c (.fn 48 [])) [(.t 26), (.t 27)]), none, 2⟩, ⟨(some 29), (.call (.c (.fn 47 [])) [(.t 24), (.t 25), (.t 28)]), none, 2⟩, ⟨(some 4), (.mov (.t 29)), none, 2⟩] [])
 .skip)))
 (.reg [⟨(some 15), (.mov (.t 5)), none, 2⟩, ⟨(some 16), (.bin .add (.t 15) (.c (.int 1))), none, 2⟩, ⟨(some 5), (.mov (.t 16)), none, 2⟩] []))))))
 (.seq (.seq (.reg [⟨(some 30), (.mov (.t 4)), none, 2⟩, ⟨(some 31), (.len false (.t 30)), none, 2⟩, ⟨(some 32), (.bin .gtr (.t 31) (.c (.int 200))), none, 2⟩] [])
 (.cond (.t 32)
 (.seq (.reg [⟨(some 2), (.mov (.c (.sl true 0 0 (.agg []) true))), none, 2⟩, ⟨(some 3), (.mov (.c (.bool false))), none, 2⟩] [])
 .ret)
 .skip))
 (.seq (.reg [⟨(some 33), (.mov (.t 4)), none, 2⟩, ⟨(some 34), (.len false (.t 33)), none, 2⟩, ⟨(some 35), (.bin .shr (.t 34) (.c (.u64 8))), none, 2⟩, ⟨(some 36), (.conv .iu8 (.t 35)), none, 2⟩, ⟨(some 37), (.mov (.t 4)), none, 2⟩, ⟨(some 38), (.len false (.t 37)), none, 2⟩, ⟨(some 39), (.conv .iu8 (.t 38)), none, 2⟩, ⟨(some 40), (.bsl false .u8 1 2 [(.u8 0)] [(0, (1, (.t 36))), (1, (1, (.t 39)))]), none, 2⟩, ⟨(some 41), (.mov (.t 4)), none, 2⟩, ⟨(some 42), (.app true 1 1 (.t 40) (.t 41)), none, 2⟩, ⟨(some 2), (.mov (.t 42)), none, 2⟩, ⟨(some 3), (.mov (.c (.bool true))), none, 2⟩] [])
 .ret))))))
theorem o18 : FnOK Try.prog 18 N18 res18 c18 := ⟨_, _, Try.f18.results.toList, [12], pures, Try.func18, show _ = some (Try.f18.body.getD .skip) by kernel_rfl, (Array.toArray_toList).symm, by kernel_rfl, by kernel_rfl, by kernel_rfl, by kernel_rfl, follows, callFunc_enter Try.func18 (by kernel_rfl) (by kernel_rfl)⟩
-- sentinel/wire.Right
def N19 : Nat := 32
def keep19 : List Nat := [0, 1, 2, 3, 4, 12, 16, 17, 31]
def res19 : List RV := [(.c 2 none)]
def c19 : CC :=
 (.seq (.reg [⟨(some 1), (.box (.t 0)), none, 2⟩, ⟨(some 2), (.alloc (.agg [(.bool false)])), none, 2⟩] [])
 (.seq (.seq (.reg [⟨(some 5), (.fad 0 (.t 1)), none, 2⟩, ⟨(some 6), (.load none (.t 5)), none, 2⟩, ⟨(some 7), (.bin .lss (.t 6) (.c (.int 1))), none, 2⟩, ⟨(some 8), (.mov (.t 7)), none, 2⟩, ⟨(some 9), (.fad 0 (.t 1)), (some (8, false)), 2⟩, ⟨(some 10), (.load none (.t 9)), (some (8, false)), 2⟩, ⟨(some 11), (.bin .gtr (.t 10) (.c (.int 12))), (some (8, false)), 2⟩, ⟨(some 12), (.pick (.t 8) (.c (.bool true)) (.t 11)), none, 2⟩] [])
 (.cond (.t 12)
 (.seq (.reg [⟨none, (.store none (.t 2) (.c (.bool false))), none, 2⟩] [])
 .ret)
 .skip))
 (.seq (.reg [⟨(some 13), (.load (some 26) (.t 1)), none, 2⟩, ⟨(some 14), (.call (.c (.fn 49 [])) [(.t 13)]), none, 2⟩, ⟨(some 3), (.alloc (.agg [(.sl true 0 0 (.agg []) true)])), none, 2⟩, ⟨none, (.store none (.t 3) (.t 14)), none, 2⟩] [])
 (.seq (.seq (.reg [⟨(some 15), (.load (some 26) (.t 1)), none, 2⟩, ⟨(some 16), (.call (.c (.fn 44 [])) [(.t 15)]), none, 2⟩] [])
 (.block 0 (.rangeF (.t 16) [17] (.reg [⟨(some 4), (.alloc (.agg [(.int 0), (.sl true 0 0 (.agg []) true), (.bool false)])), none, 2⟩, ⟨none, (.store (some 3) (.t 4) (.t 17)), none, 2⟩] []) (.block 1 (.seq (.reg [⟨(some 18), (.fad 2 (.t 4)), none, 0⟩, ⟨(some 19), (.load none (.t 18)), none, 1⟩, ⟨(some 20), (.un .not (.t 19)), none, 0⟩, ⟨(some 21), (.mov (.t 20)), none, 0⟩, ⟨(some 22), (.fad 1 (.t 4)), (some (21, false)), 0⟩, ⟨(some 23), (.load none (.t 22)), (some (21, false)), 1⟩, ⟨(some 24), (.len false (.t 23)), (some (21, false)), 0⟩, ⟨(some 25), (.bin .gtr (.t 24) (.c (.int 0))), (some (21, false)), 0⟩, ⟨(some 26), (.load none (.t 3)), (some (21, false)), 1⟩, ⟨(some 27), (.fad 0 (.t 4)), (some (21, false)), 0⟩, ⟨(some 28), (.load none (.t 27)), (some (21, false)), 1⟩, ⟨(some 29), (.call (.c (.fn 50 [])) [(.t 26), (.t 28)]), (some (21, false)), 0⟩, ⟨(some 30), (.eq true .bool (.t 25) (.t 29)), (some (21, false)), 0⟩, ⟨(some 31), (.pick (.t 21) (.c (.bool true)) (.t 30)), none, 0⟩] [])
 (.cond (.t 31)
 (.seq (.reg [⟨none, (.store none (.t 2) (.c (.bool false))), none, 2⟩] [])
 .ret)
 .skip))))))
 (.seq (.reg [⟨none, (.store none (.t 2) (.c (.bool true))), none, 2⟩] [])
 .ret)))))
theorem o19 : FnOK Try.prog 19 N19 res19 c19 := ⟨_, _, Try.f19.results.toList, [], pures, Try.func19, show _ = some (Try.f19.body.getD .skip) by kernel_rfl, (Array.toArray_toList).symm, by kernel_rfl, by kernel_rfl, by kernel_rfl, by kernel_rfl, follows, callFunc_enter Try.func19 (by kernel_rfl) (by kernel_rfl)⟩
-- sentinel/wire.Decode
def N20 : Nat := 53
def keep20 : List Nat := [0, 2, 3, 4, 5, 6, 7, 8, 29, 36, 50]
def res20 : List RV := [(.c 2 (some 26)), (.t 3)]
def c20 : CC :=
 (.seq (.reg [⟨(some 2), (.alloc (.agg [(.int 0), (.int 0), (.int 0), (.int 0), (.str []), (.u32 0), (.u32 0), (.u32 0), (.u32 0), (.u32 0), (.u32 0), (.u32 0), (.u32 0), (.u32 0), (.u32 0), (.u32 0), (.u32 0), (.u32 0), (.u32 0), (.u32 0), (.u32 0), (.sl true 0 0 (.agg []) true), (.sl true 0 0 (.agg []) true), (.sl true 0 0 (.agg []) true), (.sl true 0 0 (.agg []) true), (.sl true 0 0 (.agg []) true)])), none, 2⟩, ⟨(some 3), (.mov (.c (.bool false))), none, 2⟩] [])
 (.seq (.reg [⟨(some 9), (.mov (.t 0)), none, 2⟩, ⟨(some 10), (.build [(.sl true 0 0 (.agg []) true), (.bool false)] [(0, (1, (.t 9)))]), none, 2⟩, ⟨(some 11), (.box (.t 10)), none, 2⟩, ⟨(some 4), (.mov (.t 11)), none, 2⟩] [])
 (.seq (.reg [⟨(some 12), (.mov (.t 4)), none, 2⟩, ⟨(some 13), (.call (.c (.fn 51 [])) [(.t 12), (.c (.int 2))]), none, 2⟩] [])
 (.seq (.reg [⟨(some 14), (.mov (.t 4)), none, 2⟩, ⟨(some 15), (.call (.c (.fn 52 [])) [(.t 14), (.c (.int 1))]), none, 2⟩, ⟨(some 16), (.build [(.int 0), (.int 0), (.int 0), (.int 0), (.str []), (.u32 0), (.u32 0), (.u32 0), (.u32 0), (.u32 0), (.u32 0), (.u32 0), (.u32 0), (.u32 0), (.u32 0), (.u32 0), (.u32 0), (.u32 0), (.u32 0), (.u32 0), (.u32 0), (.sl true 0 0 (.agg []) true), (.sl true 0 0 (.agg []) true), (.sl true 0 0 (.agg []) true), (.sl true 0 0 (.agg []) true), (.sl true 0 0 (.agg []) true)] [(0, (1, (.t 15)))]), none, 2⟩, ⟨(some 5), (.alloc (.agg [(.int 0), (.int 0), (.int 0), (.int 0), (.str []), (.u32 0), (.u32 0), (.u32 0), (.u32 0), (.u32 0), (.u32 0), (.u32 0), (.u32 0), (.u32 0), (.u32 0), (.u32 0), (.u32 0), (.u32 0), (.u32 0), (.u32 0), (.u32 0), (.sl true 0 0 (.agg []) true), (.sl true 0 0 (.agg []) true), (.sl true 0 0 (.agg []) true), (.sl true 0 0 (.agg []) true), (.sl true 0 0 (.agg []) true)])), none, 2⟩, ⟨none, (.store (some 26) (.t 5) (.t 16)), none, 2⟩] [])
 (.seq (.block 0 (.loop (.seq (.seq (.reg [⟨(some 17), (.mov (.t 4)), none, 2⟩, ⟨(some 18), (.nilck (.t 17)), none, 2⟩, ⟨(some 19), (.fad 1 (.t 18)), none, 2⟩, ⟨(some 20), (.load none (.t 19)), none, 2⟩, ⟨(some 21), (.un .not (.t 20)), none, 2⟩, ⟨(some 22), (.mov (.t 21)), none, 2⟩, ⟨(some 23), (.mov (.t 4)), (some (22, true)), 2⟩, ⟨(some 24), (.nilck (.t 23)), (some (22, true)), 2⟩, ⟨(some 25), (.fad 0 (.t 24)), (some (22, true)), 2⟩, ⟨(some 26), (.load none (.t 25)), (some (22, true)), 2⟩, ⟨(some 27), (.len false (.t 26)), (some (22, true)), 2⟩, ⟨(some 28), (.bin .gtr (.t 27) (.c (.int 0))), (some (22, true)), 2⟩, ⟨(some 29), (.pick (.t 22) (.t 28) (.c (.bool false))), none, 2⟩] [])
 (.cond (.t 29)
 .skip
 (.exit 0)))
 (.block 1 (.seq (.reg [⟨(some 30), (.mov (.t 4)), none, 2⟩, ⟨(some 31), (.call (.c (.fn 52 [])) [(.t 30), (.c (.int 1))]), none, 2⟩, ⟨(some 6), (.mov (.t 31)), none, 2⟩] [])
 (.seq (.reg [⟨(some 32), (.mov (.t 6)), none, 2⟩, ⟨(some 33), (.mov (.t 4)), none, 2⟩, ⟨(some 34), (.call (.c (.fn 54 [])) [(.t 33)]), none, 2⟩, ⟨(some 35), (.call (.c (.fn 53 [])) [(.t 5), (.t 32), (.t 34)]), none, 2⟩, ⟨(some 36), (.un .not (.t 35)), none, 2⟩] [])
 (.cond (.t 36)
 (.seq (.reg [⟨(some 37), (.build [(.int 0), (.int 0), (.int 0), (.int 0), (.str []), (.u32 0), (.u32 0), (.u32 0), (.u32 0), (.u32 0), (.u32 0), (.u32 0), (.u32 0), (.u32 0), (.u32 0), (.u32 0), (.u32 0), (.u32 0), (.u32 0), (.u32 0), (.u32 0), (.sl true 0 0 (.agg []) true), (.sl true 0 0 (.agg []) true), (.sl true 0 0 (.agg []) true), (.sl true 0 0 (.agg []) true), (.sl true 0 0 (.agg []) true)] []), none, 2⟩, ⟨none, (.store (some 26) (.t 2) (.t 37)), none, 2⟩, ⟨(some 3), (.mov (.c (.bool false))), none, 2⟩] [])
 .ret)
 .skip)))))))
 (.seq (.reg [⟨(some 39), (.load (some 26) (.t 5)), none, 2⟩, ⟨(some 40), (.call (.c (.fn 17 [])) [(.t 39)]), none, 2⟩, ⟨(some 38), (.mov (.t 40)), none, 2⟩, ⟨(some 41), (.ext (.t 38) 0), none, 2⟩, ⟨(some 42), (.ext (.t 38) 1), none, 2⟩, ⟨(some 7), (.mov (.t 41)), none, 2⟩, ⟨(some 8), (.mov (.t 42)), none, 2⟩] [])
 (.seq (.seq (.reg [⟨(some 43), (.mov (.t 8)), none, 2⟩, ⟨(some 44), (.un .not (.t 43)), none, 2⟩, ⟨(some 45), (.mov (.t 44)), none, 2⟩, ⟨(some 46), (.mov (.t 7)), (some (45, false)), 2⟩, ⟨(some 47), (.mov (.t 0)), (some (45, false)), 2⟩, ⟨(some 48), (.call (.c (.fn 55 [])) [(.t 46), (.t 47)]), (some (45, false)), 2⟩, ⟨(some 49), (.un .not (.t 48)), (some (45, false)), 2⟩, ⟨(some 50), (.pick (.t 45) (.c (.bool true)) (.t 49)), none, 2⟩] [])
 (.cond (.t 50)
 (.seq (.reg [⟨(some 51), (.build [(.int 0), (.int 0), (.int 0), (.int 0), (.str []), (.u32 0), (.u32 0), (.u32 0), (.u32 0), (.u32 0), (.u32 0), (.u32 0), (.u32 0), (.u32 0), (.u32 0), (.u32 0), (.u32 0), (.u32 0), (.u32 0), (.u32 0), (.u32 0), (.sl true 0 0 (.agg []) true), (.sl true 0 0 (.agg []) true), (.sl true 0 0 (.agg []) true), (.sl true 0 0 (.agg []) true), (.sl true 0 0 (.agg []) true)] []), none, 2⟩, ⟨none, (.store (some 26) (.t 2) (.t 51)), none, 2⟩, ⟨(some 3), (.mov (.c (.bool false))), none, 2⟩] [])
 .ret)
 .skip))
 (.seq (.reg [⟨(some 52), (.load (some 26) (.t 5)), none, 2⟩, ⟨none, (.store (some 26) (.t 2) (.t 52)), none, 2⟩, ⟨(some 3), (.mov (.c (.bool true))), none, 2⟩] [])
 .ret))))))))
theorem o20 : FnOK Try.prog 20 N20 res20 c20 := ⟨_, _, Try.f20.results.toList, [], pures, Try.func20, show _ = some (Try.f20.body.getD .skip) by kernel_rfl, (Array.toArray_toList).symm, by kernel_rfl, by kernel_rfl, by kernel_rfl, by kernel_rfl, follows, callFunc_enter Try.func20 (by kernel_rfl) (by kernel_rfl)⟩
-- sentinel/sentinelref5.Msgs
def N21 : Nat := 97
def keep21 : List Nat := [0, 1, 2, 3, 4]
def res21 : List RV := [(.t 4)]
def c21 : CC :=
 (.seq (.reg [⟨(some 2), (.box (.t 0)), none, 2⟩, ⟨(some 3), (.box (.t 1)), none, 2⟩, ⟨(some 4), (.mov (.c (.bool false))), none, 2⟩] [])
 (.seq (.reg [⟨(some 5), (.fad 0 (.t 2)), none, 2⟩, ⟨(some 6), (.load none (.t 5)), none, 2⟩, ⟨(some 7), (.fad 0 (.t 3)), none, 2⟩, ⟨(some 8), (.load none (.t 7)), none, 2⟩, ⟨(some 9), (.eq false .sc (.t 6) (.t 8)), none, 2⟩, ⟨(some 10), (.mov (.t 9)), none, 2⟩, ⟨(some 11), (.fad 1 (.t 2)), (some (10, true)), 2⟩, ⟨(some 12), (.load none (.t 11)), (some (10, true)), 2⟩, ⟨(some 13), (.fad 1 (.t 3)), (some (10, true)), 2⟩, ⟨(some 14), (.load none (.t 13)), (some (10, true)), 2⟩, ⟨(some 15), (.eq false .sc (.t 12) (.t 14)), (some (10, true)), 2⟩, ⟨(some 16), (.pick (.t 10) (.t 15) (.c (.bool false))), none, 2⟩, ⟨(some 17), (.mov (.t 16)), none, 2⟩, ⟨(some 18), (.fad 2 (.t 2)), (some (17, true)), 2⟩, ⟨(some 19), (.load none (.t 18)), (some (17, true)), 2⟩, ⟨(some 20), (.fad 2 (.t 3)), (some (17, true)), 2⟩, ⟨(some 21), (.load none (.t 20)), (some (17, true)), 2⟩, ⟨(some 22), (.eq false .sc (.t 19) (.t 21)), (some (17, true)), 2⟩, ⟨(some 23), (.pick (.t 17) (.t 22) (.c (.bool false))), none, 2⟩, ⟨(some 24), (.mov (.t 23)), none, 2⟩, ⟨(some 25), (.fad 3 (.t 2)), (some (24, true)), 2⟩, ⟨(some 26), (.load none (.t 25)), (some (24, true)), 2⟩, ⟨(some 27), (.fad 3 (.t 3)), (some (24, true)), 2⟩, ⟨(some 28), (.load none (.t 27)), (some (24, true)), 2⟩, ⟨(some 29), (.eq false .sc (.t 26) (.t 28)), (some (24, true)), 2⟩, ⟨(some 30), (.pick (.t 24) (.t 29) (.c (.bool false))), none, 2⟩, ⟨(some 31), (.mov (.t 30)), none, 2⟩, ⟨(some 32), (.fad 4 (.t 2)), (some (31, true)), 2⟩, ⟨(some 33), (.load none (.t 32)), (some (31, true)), 2⟩, ⟨(some 34), (.fad 4 (.t 3)), (some (31, true)), 2⟩, ⟨(some 35), (.load none (.t 34)), (some (31, true)), 2⟩, ⟨(some 36), (.eq false .sc (.t 33) (.t 35)), (some (31, true)), 2⟩, ⟨(some 37), (.pick (.t 31) (.t 36) (.c (.bool false))), none, 2⟩, ⟨(some 38), (.mov (.t 37)), none, 2⟩, ⟨(some 39), (.fad 5 (.t 2)), (some (38, true)), 2⟩, ⟨(some 40), (.load (some 8) (.t 39)), (some (38, true)), 2⟩, ⟨(some 41), (.fad 5 (.t 3)), (some (38, true)), 2⟩, ⟨(some 42), (.load (some 8) (.t 41)), (some (38, true)), 2⟩, ⟨(some 43), (.eq false (.arr 8) (.t 40) (.t 42)), (some (38, true)), 2⟩, ⟨(some 44), (.pick (.t 38) (.t 43) (.c (.bool false))), none, 2⟩, ⟨(some 45), (.mov (.t 44)), none, 2⟩, ⟨(some 46), (.fad 13 (.t 2)), (some (45, true)), 2⟩, ⟨(some 47), (.load (some 8) (.t 46)), (some (45, true)), 2⟩, ⟨(some 48), (.fad 13 (.t 3)), (some (45, true)), 2⟩, ⟨(some 49), (.load (some 8) (.t 48)), (some (45, true)), 2⟩, ⟨(some 50), (.eq false (.arr 8) (.t 47) (.t 49)), (some (45, true)), 2⟩, ⟨(some 51), (.pick (.t 45) (.t 50) (.c (.bool false))), none, 2⟩, ⟨(some 52), (.mov (.t 51)), none, 2⟩, ⟨(some 53), (.fad 21 (.t 2)), (some (52, true)), 2⟩, ⟨(some 54), (.load none (.t 53)), (some (52, true)), 2⟩, ⟨(some 55), (.conv .bstr (.t 54)), (some (52, true)), 2⟩, ⟨(some 56), (.fad 21 (.t 3)), (some (52, true)), 2⟩, ⟨(some 57), (.load none (.t 56)), (some (52, true)), 2⟩, ⟨(some 58), (.conv .bstr (.t 57)), (some (52, true)), 2⟩, ⟨(some 59), (.eq false .sc (.t 55) (.t 58)), (some (52, true)), 2⟩, ⟨(some 60), (.pick (.t 52) (.t 59) (.c (.bool false))), none, 2⟩, ⟨(some 61), (.mov (.t 60)), none, 2⟩, ⟨(some 62), (.fad 22 (.t 2)), (some (61, true)), 2⟩, ⟨(some 63), (.load none (.t 62)), (some (61, true)), 2⟩, ⟨(some 64), (.conv .bstr (.t 63)), (some (61, true)), 2⟩, ⟨(some 65), (.fad 22 (.t 3)), (some (61, true)), 2⟩, ⟨(some 66), (.load none (.t 65)), (some (61, true)), 2⟩, ⟨(some 67), (.conv .bstr (.t 66)), (some (61, true)), 2⟩, ⟨(some 68), (.eq false .sc (.t 64) (.t 67)), (some (61, true)), 2⟩, ⟨(some 69), (.pick (.t 61) (.t 68) (.c (.bool false))), none, 2⟩, ⟨(some 70), (.mov (.t 69)), none, 2⟩, ⟨(some 71), (.fad 23 (.t 2)), (some (70, true)), 2⟩, ⟨(some 72), (.load none (.t 71)), (some (70, true)), 2⟩, ⟨(some 73), (.conv .bstr (.t 72)), (some (70, true)), 2⟩, ⟨(some 74), (.fad 23 (.t 3)), (some (70, true)), 2⟩, ⟨(some 75), (.load none (.t 74)), (some (70, true)), 2⟩, ⟨(some 76), (.conv .bstr (.t 75)), (some (70, true)), 2⟩, ⟨(some 77), (.eq false .sc (.t 73) (.t 76)), (some (70, true)), 2⟩, ⟨(some 78), (.pick (.t 70) (.t 77) (.c (.bool false))), none, 2⟩, ⟨(some 79), (.mov (.t 78)), none, 2⟩, ⟨(some 80), (.fad 24 (.t 2)), (some (79, true)), 2⟩, ⟨(some 81), (.load none (.t 80)), (some (79, true)), 2⟩, ⟨(some 82), (.conv .bstr (.t 81)), (some (79, true)), 2⟩, ⟨(some 83), (.fad 24 (.t 3)), (some (79, true)), 2⟩, ⟨(some 84), (.load none (.t 83)), (some (79, true)), 2⟩, ⟨(some 85), (.conv .bstr (.t 84)), (some (79, true)), 2⟩, ⟨(some 86), (.eq false .sc (.t 82) (.t 85)), (some (79, true)), 2⟩, ⟨(some 87), (.pick (.t 79) (.t 86) (.c (.bool false))), none, 2⟩, ⟨(some 88), (.mov (.t 87)), none, 2⟩, ⟨(some 89), (.fad 25 (.t 2)), (some (88, true)), 2⟩, ⟨(some 90), (.load none (.t 89)), (some (88, true)), 2⟩, ⟨(some 91), (.conv .bstr (.t 90)), (some (88, true)), 2⟩, ⟨(some 92), (.fad 25 (.t 3)), (some (88, true)), 2⟩, ⟨(some 93), (.load none (.t 92)), (some (88, true)), 2⟩, ⟨(some 94), (.conv .bstr (.t 93)), (some (88, true)), 2⟩, ⟨(some 95), (.eq false .sc (.t 91) (.t 94)), (some (88, true)), 2⟩, ⟨(some 96), (.pick (.t 88) (.t 95) (.c (.bool false))), none, 2⟩, ⟨(some 4), (.mov (.t 96)), none, 2⟩] [])
 .ret))
theorem o21 : FnOK Try.prog 21 N21 res21 c21 := ⟨_, _, Try.f21.results.toList, [], pures, Try.func21, show _ = some (Try.f21.body.getD .skip) by kernel_rfl, (Array.toArray_toList).symm, by kernel_rfl, by kernel_rfl, by kernel_rfl, by kernel_rfl, follows, callFunc_enter Try.func21 (by kernel_rfl) (by kernel_rfl)⟩
-- sentinel/sentinellaw5.within
def N22 : Nat := 15
def keep22 : List Nat := [0, 1, 4, 5, 10]
def res22 : List RV := [(.t 4)]
def c22 : CC :=
 (.seq (.reg [⟨(some 4), (.mov (.c (.int 0))), none, 2⟩] [])
 (.seq (.reg [⟨(some 6), (.mov (.t 0)), none, 2⟩, ⟨(some 7), (.mov (.t 1)), none, 2⟩, ⟨(some 8), (.bin .rem (.t 6) (.t 7)), none, 2⟩, ⟨(some 5), (.mov (.t 8)), none, 2⟩] [])
 (.seq (.seq (.reg [⟨(some 9), (.mov (.t 5)), none, 2⟩, ⟨(some 10), (.bin .lss (.t 9) (.c (.int 0))), none, 2⟩] [])
 (.cond (.t 10)
 (.reg [⟨(some 11), (.mov (.t 5)), none, 2⟩, ⟨(some 12), (.mov (.t 1)), none, 2⟩, ⟨(some 13), (.bin .add (.t 11) (.t 12)), none, 2⟩, ⟨(some 5), (.mov (.t 13)), none, 2⟩] [])
 .skip))
 (.seq (.reg [⟨(some 14), (.mov (.t 5)), none, 2⟩, ⟨(some 4), (.mov (.t 14)), none, 2⟩] [])
 .ret))))
theorem o22 : FnOK Try.prog 22 N22 res22 c22 := ⟨_, _, Try.f22.results.toList, [], pures, Try.func22, show _ = some (Try.f22.body.getD .skip) by kernel_rfl, (Array.toArray_toList).symm, by kernel_rfl, by kernel_rfl, by kernel_rfl, by kernel_rfl, follows, callFunc_enter Try.func22 (by kernel_rfl) (by kernel_rfl)⟩
-- sentinel/sentinelref5.Decode
def N23 : Nat := 78
def keep23 : List Nat := [0, 2, 3, 4, 5, 6, 7, 8, 11, 36, 75]
def res23 : List RV := [(.c 2 (some 26)), (.t 3)]
def c23 : CC :=
 (.seq (.reg [⟨(some 2), (.alloc (.agg [(.int 0), (.int 0), (.int 0), (.int 0), (.str []), (.u32 0), (.u32 0), (.u32 0), (.u32 0), (.u32 0), (.u32 0), (.u32 0), (.u32 0), (.u32 0), (.u32 0), (.u32 0), (.u32 0), (.u32 0), (.u32 0), (.u32 0), (.u32 0), (.sl true 0 0 (.agg []) true), (.sl true 0 0 (.agg []) true), (.sl true 0 0 (.agg []) true), (.sl true 0 0 (.agg []) true), (.sl true 0 0 (.agg []) true)])), none, 2⟩, ⟨(some 3), (.mov (.c (.bool false))), none, 2⟩] [])
 (.seq (.seq (.reg [⟨(some 9), (.mov (.t 0)), none, 2⟩, ⟨(some 10), (.len false (.t 9)), none, 2⟩, ⟨(some 11), (.bin .lss (.t 10) (.c (.int 3))), none, 2⟩] [])
 (.cond (.t 11)
 (.seq (.reg [⟨(some 12), (.build [(.int 0), (.int 0), (.int 0), (.int 0), (.str []), (.u32 0), (.u32 0), (.u32 0), (.u32 0), (.u32 0), (.u32 0), (.u32 0), (.u32 0), (.u32 0), (.u32 0), (.u32 0), (.u32 0), (.u32 0), (.u32 0), (.u32 0), (.u32 0), (.sl true 0 0 (.agg []) true), (.sl true 0 0 (.agg []) true), (.sl true 0 0 (.agg []) true), (.sl true 0 0 (.agg []) true), (.sl true 0 0 (.agg []) true)] []), none, 2⟩, ⟨none, (.store (some 26) (.t 2) (.t 12)), none, 2⟩, ⟨(some 3), (.mov (.c (.bool false))), none, 2⟩] [])
 .ret)
 .skip))
 (.seq (.reg [⟨(some 13), (.mov (.t 0)), none, 2⟩, ⟨(some 14), (.iadS 1 (.t 13) (.c (.int 2))), none, 2⟩, ⟨(some 15), (.load none (.t 14)), none, 2⟩, ⟨(some 16), (.conv .u8i (.t 15)), none, 2⟩, ⟨(some 17), (.build [(.int 0), (.int 0), (.int 0), (.int 0), (.str []), (.u32 0), (.u32 0), (.u32 0), (.u32 0), (.u32 0), (.u32 0), (.u32 0), (.u32 0), (.u32 0), (.u32 0), (.u32 0), (.u32 0), (.u32 0), (.u32 0), (.u32 0), (.u32 0), (.sl true 0 0 (.agg []) true), (.sl true 0 0 (.agg []) true), (.sl true 0 0 (.agg []) true), (.sl true 0 0 (.agg []) true), (.sl true 0 0 (.agg []) true)] [(0, (1, (.t 16)))]), none, 2⟩, ⟨(some 4), (.alloc (.agg [(.int 0), (.int 0), (.int 0), (.int 0), (.str []), (.u32 0), (.u32 0), (.u32 0), (.u32 0), (.u32 0), (.u32 0), (.u32 0), (.u32 0), (.u32 0), (.u32 0), (.u32 0), (.u32 0), (.u32 0), (.u32 0), (.u32 0), (.u32 0), (.sl true 0 0 (.agg []) true), (.sl true 0 0 (.agg []) true), (.sl true 0 0 (.agg []) true), (.sl true 0 0 (.agg []) true), (.sl true 0 0 (.agg []) true)])), none, 2⟩, ⟨none, (.store (some 26) (.t 4) (.t 17)), none, 2⟩] [])
 (.seq (.reg [⟨(some 5), (.mov (.c (.int 3))), none, 2⟩] [])
 (.seq (.block 0 (.loop (.seq (.seq (.reg [⟨(some 18), (.mov (.t 5)), none, 2⟩, ⟨(some 19), (.bin .add (.t 18) (.c (.int 2))), none, 2⟩, ⟨(some 20), (.mov (.t 0)), none, 2⟩, ⟨(some 21), (.len false (.t 20)), none, 2⟩, ⟨(some 22), (.bin .leq (.t 19) (.t 21)), none, 2⟩, ⟨(some 23), (.mov (.t 22)), none, 2⟩, ⟨(some 24), (.mov (.t 5)), (some (23, true)), 2⟩, ⟨(some 25), (.bin .add (.t 24) (.c (.int 2))), (some (23, true)), 2⟩, ⟨(some 26), (.mov (.t 0)), (some (23, true)), 2⟩, ⟨(some 27), (.mov (.t 5)), (some (23, true)), 2⟩, ⟨(some 28), (.bin .add (.t 27) (.c (.int 1))), (some (23, true)), 2⟩, ⟨(some 29), (.iadS 1 (.t 26) (.t 28)), (some (23, true)), 2⟩, ⟨(some 30), (.load none (.t 29)), (some (23, true)), 2⟩, ⟨(some 31), (.conv .u8i (.t 30)), (some (23, true)), 2⟩, ⟨(some 32), (.bin .add (.t 25) (.t 31)), (some (23, true)), 2⟩, ⟨(some 33), (.mov (.t 0)), (some (23, true)), 2⟩, ⟨(some 34), (.len false (.t 33)), (some (23, true)), 2⟩, ⟨(some 35), (.bin .leq (.t 32) (.t 34)), (some (23, true)), 2⟩, ⟨(some 36), (.pick (.t 23) (.t 35) (.c (.bool false))), none, 2⟩] [])
 (.cond (.t 36)
 .skip
 (.exit 0)))
 (.block 1 (.seq (.reg [⟨(some 37), (.mov (.t 0)), none, 2⟩, ⟨(some 38), (.mov (.t 5)), none, 2⟩, ⟨(some 39), (.bin .add (.t 38) (.c (.int 1))), none, 2⟩, ⟨(some 40), (.iadS 1 (.t 37) (.t 39)), none, 2⟩, ⟨(some 41), (.load none (.t 40)), none, 2⟩, ⟨(some 42), (.conv .u8i (.t 41)), none, 2⟩, ⟨(some 6), (.mov (.t 42)), none, 2⟩] [])
 (.seq (.reg [⟨(some 43), (.load (some 26) (.t 4)), none, 1⟩, ⟨(some 44), (.mov (.t 0)), none, 0⟩, ⟨(some 45), (.mov (.t 5)), none, 0⟩, ⟨(some 46), (.iadS 1 (.t 44) (.t 45)), none, 1⟩, ⟨(some 47), (.load none (.t 46)), none, 1⟩, ⟨(some 48), (.conv .u8i (.t 47)), none, 0⟩, ⟨(some 49), (.mov (.t 0)), none, 0⟩, ⟨(some 50), (.mov (.t 5)), none, 0⟩, ⟨(some 51), (.bin .add (.t 50) (.c (.int 2))), none, 0⟩, ⟨(some 52), (.mov (.t 5)), none, 0⟩, ⟨(some 53), (.bin .add (.t 52) (.c (.int 2))), none, 0⟩, ⟨(some 54), (.mov (.t 6)), none, 0⟩, ⟨(some 55), (.bin .add (.t 53) (.t 54)), none, 0⟩, ⟨(some 56), (.slcS 1 (.t 49) (some (.t 51)) (some (.t 55)) none), none, 0⟩, ⟨(some 57), (.call (.c (.fn 56 [])) [(.t 43), (.t 48), (.t 56)]), none, 0⟩, ⟨none, (.store (some 26) (.t 4) (.t 57)), none, 2⟩] [])
 (.reg [⟨(some 58), (.mov (.t 5)), none, 2⟩, ⟨(some 59), (.bin .add (.t 58) (.c (.int 2))), none, 2⟩, ⟨(some 60), (.mov (.t 6)), none, 2⟩, ⟨(some 61), (.bin .add (.t 59) (.t 60)), none, 2⟩, ⟨(some 5), (.mov (.t 61)), none, 2⟩] [])))))))
 (.seq (.reg [⟨(some 63), (.load (some 26) (.t 4)), none, 2⟩, ⟨(some 64), (.call (.c (.fn 18 [])) [(.t 63)]), none, 2⟩, ⟨(some 62), (.mov (.t 64)), none, 2⟩, ⟨(some 65), (.ext (.t 62) 0), none, 2⟩, ⟨(some 66), (.ext (.t 62) 1), none, 2⟩, ⟨(some 7), (.mov (.t 65)), none, 2⟩, ⟨(some 8), (.mov (.t 66)), none, 2⟩] [])
 (.seq (.seq (.reg [⟨(some 67), (.mov (.t 8)), none, 2⟩, ⟨(some 68), (.un .not (.t 67)), none, 2⟩, ⟨(some 69), (.mov (.t 68)), none, 2⟩, ⟨(some 70), (.mov (.t 7)), (some (69, false)), 2⟩, ⟨(some 71), (.conv .bstr (.t 70)), (some (69, false)), 2⟩, ⟨(some 72), (.mov (.t 0)), (some (69, false)), 2⟩, ⟨(some 73), (.conv .bstr (.t 72)), (some (69, false)), 2⟩, ⟨(some 74), (.eq true .sc (.t 71) (.t 73)), (some (69, false)), 2⟩, ⟨(some 75), (.pick (.t 69) (.c (.bool true)) (.t 74)), none, 2⟩] [])
 (.cond (.t 75)
 (.seq (.reg [⟨(some 76), (.build [(.int 0), (.int 0), (.int 0), (.int 0), (.str []), (.u32 0), (.u32 0), (.u32 0), (.u32 0), (.u32 0), (.u32 0), (.u32 0), (.u32 0), (.u32 0), (.u32 0), (.u32 0), (.u32 0), (.u32 0), (.u32 0), (.u32 0), (.u32 0), (.sl true 0 0 (.agg []) true), (.sl true 0 0 (.agg []) true), (.sl true 0 0 (.agg []) true), (.sl true 0 0 (.agg []) true), (.sl true 0 0 (.agg []) true)] []), none, 2⟩, ⟨none, (.store (some 26) (.t 2) (.t 76)), none, 2⟩, ⟨(some 3), (.mov (.c (.bool false))), none, 2⟩] [])
 .ret)
 .skip))
 (.seq (.reg [⟨(some 77), (.load (some 26) (.t 4)), none, 2⟩, ⟨none, (.store (some 26) (.t 2) (.t 77)), none, 2⟩, ⟨(some 3), (.mov (.c (.bool true))), none, 2⟩] [])
 .ret))))))))
theorem o23 : FnOK Try.prog 23 N23 res23 c23 := ⟨_, _, Try.f23.results.toList, [], pures, Try.func23, show _ = some (Try.f23.body.getD .skip) by kernel_rfl, (Array.toArray_toList).symm, by kernel_rfl, by kernel_rfl, by kernel_rfl, by kernel_rfl, follows, callFunc_enter Try.func23 (by kernel_rfl) (by kernel_rfl)⟩
-- sentinel/sentinelref1.From
def N24 : Nat := 14
def keep24 : List Nat := [0, 2, 3, 5]
def res24 : List RV := [(.c 2 (some 8))]
def c24 : CC :=
 (.seq (.reg [⟨(some 2), (.alloc (.agg [(.u32 0), (.u32 0), (.u32 0), (.u32 0), (.u32 0), (.u32 0), (.u32 0), (.u32 0)])), none, 2⟩] [])
 (.seq (.reg [⟨(some 3), (.alloc (.agg [(.u32 0), (.u32 0), (.u32 0), (.u32 0), (.u32 0), (.u32 0), (.u32 0), (.u32 0)])), none, 2⟩] [])
 (.seq (.seq (.reg [⟨(some 4), (.mov (.t 0)), none, 2⟩, ⟨(some 5), (.bin .gtr (.t 4) (.c (.int 0))), none, 2⟩] [])
 (.cond (.t 5)
 (.reg [⟨(some 6), (.mov (.t 0)), none, 2⟩, ⟨(some 7), (.conv .iu32 (.t 6)), none, 2⟩, ⟨(some 8), (.mov (.t 0)), none, 2⟩, ⟨(some 9), (.bin .shr (.t 8) (.c (.u64 32))), none, 2⟩, ⟨(some 10), (.conv .iu32 (.t 9)), none, 2⟩, ⟨(some 11), (.iadA 8 1 (.t 3) (.c (.int 0))), none, 2⟩, ⟨none, (.store none (.t 11) (.t 7)), none, 2⟩, ⟨(some 12), (.iadA 8 1 (.t 3) (.c (.int 1))), none, 2⟩, ⟨none, (.store none (.t 12) (.t 10)), none, 2⟩] [])
 .skip))
 (.seq (.reg [⟨(some 13), (.load (some 8) (.t 3)), none, 2⟩, ⟨none, (.store (some 8) (.t 2) (.t 13)), none, 2⟩] [])
 .ret))))
theorem o24 : FnOK Try.prog 24 N24 res24 c24 := ⟨_, _, Try.f24.results.toList, [], pures, Try.func24, show _ = some (Try.f24.body.getD .skip) by kernel_rfl, (Array.toArray_toList).symm, by kernel_rfl, by kernel_rfl, by kernel_rfl, by kernel_rfl, follows, callFunc_enter Try.func24 (by kernel_rfl) (by kernel_rfl)⟩
-- sentinel/sentinelref5.Right
def N25 : Nat := 84
def keep25 : List Nat := [0, 1, 2, 40]
def res25 : List RV := [(.t 2)]
def c25 : CC :=
 (.seq (.reg [⟨(some 1), (.box (.t 0)), none, 2⟩, ⟨(some 2), (.mov (.c (.bool false))), none, 2⟩] [])
 (.seq (.seq (.reg [⟨(some 3), (.load (some 26) (.t 1)), none, 1⟩, ⟨(some 4), (.call (.c (.fn 46 [])) [(.t 3)]), none, 0⟩, ⟨(some 5), (.load (some 26) (.t 1)), none, 1⟩, ⟨(some 6), (.call (.c (.fn 57 [])) [(.t 5)]), none, 0⟩, ⟨(some 7), (.eq true .sc (.t 4) (.t 6)), none, 0⟩, ⟨(some 8), (.mov (.t 7)), none, 0⟩, ⟨(some 9), (.fad 1 (.t 1)), (some (8, false)), 0⟩, ⟨(some 10), (.load none (.t 9)), (some (8, false)), 1⟩, ⟨(some 11), (.bin .lss (.t 10) (.c (.int 0))), (some (8, false)), 0⟩, ⟨(some 12), (.pick (.t 8) (.c (.bool true)) (.t 11)), none, 0⟩, ⟨(some 13), (.mov (.t 12)), none, 0⟩, ⟨(some 14), (.fad 1 (.t 1)), (some (13, false)), 0⟩, ⟨(some 15), (.load none (.t 14)), (some (13, false)), 1⟩, ⟨(some 16), (.bin .gtr (.t 15) (.c (.int 2))), (some (13, false)), 0⟩, ⟨(some 17), (.pick (.t 13) (.c (.bool true)) (.t 16)), none, 0⟩, ⟨(some 18), (.mov (.t 17)), none, 0⟩, ⟨(some 19), (.fad 4 (.t 1)), (some (18, false)), 0⟩, ⟨(some 20), (.load none (.t 19)), (some (18, false)), 1⟩, ⟨(some 21), (.eq true .sc (.t 20) (.c (.str []))), (some (18, false)), 0⟩, ⟨(some 22), (.mov (.t 21)), (some (18, false)), 0⟩, ⟨(some 23), (.fad 4 (.t 1)), (some (22, true)), 0⟩, ⟨(some 24), (.load none (.t 23)), (some (22, true)), 1⟩, ⟨(some 25), (.call (.c (.fn 58 [])) [(.t 24)]), (some (22, true)), 0⟩, ⟨(some 26), (.un .not (.t 25)), (some (22, true)), 0⟩, ⟨(some 27), (.pick (.t 22) (.t 26) (.c (.bool false))), (some (18, false)), 0⟩, ⟨(some 28), (.pick (.t 18) (.c (.bool true)) (.t 27)), none, 0⟩, ⟨(some 29), (.mov (.t 28)), none, 0⟩, ⟨(some 30), (.fad 5 (.t 1)), (some (29, false)), 0⟩, ⟨(some 31), (.load (some 8) (.t 30)), (some (29, false)), 1⟩, ⟨(some 32), (.call (.c (.fn 59 [])) [(.t 31)]), (some (29, false)), 0⟩, ⟨(some 33), (.un .not (.t 32)), (some (29, false)), 0⟩, ⟨(some 34), (.pick (.t 29) (.c (.bool true)) (.t 33)), none, 0⟩, ⟨(some 35), (.mov (.t 34)), none, 0⟩, ⟨(some 36), (.fad 13 (.t 1)), (some (35, false)), 0⟩, ⟨(some 37), (.load (some 8) (.t 36)), (some (35, false)), 1⟩, ⟨(some 38), (.call (.c (.fn 59 [])) [(.t 37)]), (some (35, false)), 0⟩, ⟨(some 39), (.un .not (.t 38)), (some (35, false)), 0⟩, ⟨(some 40), (.pick (.t 35) (.c (.bool true)) (.t 39)), none, 0⟩] [])
 (.cond (.t 40)
 (.seq (.reg [⟨(some 2), (.mov (.c (.bool false))), none, 2⟩] [])
 .ret)
 .skip))
 (.seq (.reg [⟨(some 41), (.fad 21 (.t 1)), none, 2⟩, ⟨(some 42), (.load none (.t 41)), none, 2⟩, ⟨(some 43), (.len false (.t 42)), none, 2⟩, ⟨(some 44), (.bin .leq (.t 43) (.c (.int 16))), none, 2⟩, ⟨(some 45), (.mov (.t 44)), none, 2⟩, ⟨(some 46), (.fad 22 (.t 1)), (some (45, true)), 2⟩, ⟨(some 47), (.load none (.t 46)), (some (45, true)), 2⟩, ⟨(some 48), (.len false (.t 47)), (some (45, true)), 2⟩, ⟨(some 49), (.bin .leq (.t 48) (.c (.int 48))), (some (45, true)), 2⟩, ⟨(some 50), (.pick (.t 45) (.t 49) (.c (.bool false))), none, 2⟩, ⟨(some 51), (.mov (.t 50)), none, 2⟩, ⟨(some 52), (.fad 23 (.t 1)), (some (51, true)), 2⟩, ⟨(some 53), (.load none (.t 52)), (some (51, true)), 2⟩, ⟨(some 54), (.len false (.t 53)), (some (51, true)), 2⟩, ⟨(some 55), (.bin .leq (.t 54) (.c (.int 16))), (some (51, true)), 2⟩, ⟨(some 56), (.pick (.t 51) (.t 55) (.c (.bool false))), none, 2⟩, ⟨(some 57), (.mov (.t 56)), none, 2⟩, ⟨(some 58), (.fad 24 (.t 1)), (some (57, true)), 2⟩, ⟨(some 59), (.load none (.t 58)), (some (57, true)), 2⟩, ⟨(some 60), (.len false (.t 59)), (some (57, true)), 2⟩, ⟨(some 61), (.bin .leq (.t 60) (.c (.int 80))), (some (57, true)), 2⟩, ⟨(some 62), (.pick (.t 57) (.t 61) (.c (.bool false))), none, 2⟩, ⟨(some 63), (.mov (.t 62)), none, 2⟩, ⟨(some 64), (.fad 25 (.t 1)), (some (63, true)), 2⟩, ⟨(some 65), (.load none (.t 64)), (some (63, true)), 2⟩, ⟨(some 66), (.len false (.t 65)), (some (63, true)), 2⟩, ⟨(some 67), (.bin .leq (.t 66) (.c (.int 120))), (some (63, true)), 2⟩, ⟨(some 68), (.pick (.t 63) (.t 67) (.c (.bool false))), none, 2⟩, ⟨(some 69), (.mov (.t 68)), none, 2⟩, ⟨(some 70), (.fad 2 (.t 1)), (some (69, true)), 2⟩, ⟨(some 71), (.load none (.t 70)), (some (69, true)), 2⟩, ⟨(some 72), (.bin .geq (.t 71) (.c (.int 0))), (some (69, true)), 2⟩, ⟨(some 73), (.pick (.t 69) (.t 72) (.c (.bool false))), none, 2⟩, ⟨(some 74), (.mov (.t 73)), none, 2⟩, ⟨(some 75), (.fad 3 (.t 1)), (some (74, true)), 2⟩, ⟨(some 76), (.load none (.t 75)), (some (74, true)), 2⟩, ⟨(some 77), (.bin .geq (.t 76) (.c (.int 0))), (some (74, true)), 2⟩, ⟨(some 78), (.pick (.t 74) (.t 77) (.c (.bool false))), none, 2⟩, ⟨(some 79), (.mov (.t 78)), none, 2⟩, ⟨(some 80), (.fad 3 (.t 1)), (some (79, true)), 2⟩, ⟨(some 81), (.load none (.t 80)), (some (79, true)), 2⟩, ⟨(some 82), (.bin .leq (.t 81) (.c (.int 11))), (some (79, true)), 2⟩, ⟨(some 83), (.pick (.t 79) (.t 82) (.c (.bool false))), none, 2⟩, ⟨(some 2), (.mov (.t 83)), none, 2⟩] [])
 .ret)))
theorem o25 : FnOK Try.prog 25 N25 res25 c25 := ⟨_, _, Try.f25.results.toList, [], pures, Try.func25, show _ = some (Try.f25.body.getD .skip) by kernel_rfl, (Array.toArray_toList).symm, by kernel_rfl, by kernel_rfl, by kernel_rfl, by kernel_rfl, follows, callFunc_enter Try.func25 (by kernel_rfl) (by kernel_rfl)⟩
-- sentinel/sentinellaw5.Record
def N34 : Nat := 57
def keep34 : List Nat := [0, 1, 2, 6, 7]
def res34 : List RV := [(.c 6 (some 23))]
def c34 : CC :=
 (.seq (.reg [⟨(some 6), (.alloc (.agg [(.int 0), (.str []), (.sl true 0 0 (.agg []) true), (.u32 0), (.u32 0), (.u32 0), (.u32 0), (.u32 0), (.u32 0), (.u32 0), (.u32 0), (.u32 0), (.u32 0), (.u32 0), (.u32 0), (.u32 0), (.u32 0), (.u32 0), (.u32 0), (.sl true 0 0 (.agg []) true), (.int 0), (.int 0), (.int 0)])), none, 2⟩] [])
 (.seq (.reg [⟨(some 8), (.mov (.t 0)), none, 2⟩, ⟨(some 9), (.call (.c (.fn 22 [])) [(.t 8), (.c (.int 2))]), none, 2⟩, ⟨(some 10), (.bin .add (.c (.int 1)) (.t 9)), none, 2⟩, ⟨(some 11), (.mov (.t 1)), none, 2⟩, ⟨(some 12), (.call (.c (.fn 42 [])) [(.t 11)]), none, 2⟩, ⟨(some 13), (.mov (.t 0)), none, 2⟩, ⟨(some 14), (.bin .quo (.t 13) (.c (.int 2))), none, 2⟩, ⟨(some 15), (.call (.c (.fn 22 [])) [(.t 14), (.c (.int 4294967296))]), none, 2⟩, ⟨(some 16), (.call (.c (.fn 24 [])) [(.t 15)]), none, 2⟩, ⟨(some 17), (.mov (.t 0)), none, 2⟩, ⟨(some 18), (.bin .quo (.t 17) (.c (.int 7))), none, 2⟩, ⟨(some 19), (.call (.c (.fn 22 [])) [(.t 18), (.c (.int 4294967296))]), none, 2⟩, ⟨(some 20), (.call (.c (.fn 24 [])) [(.t 19)]), none, 2⟩, ⟨(some 21), (.mov (.t 0)), none, 2⟩, ⟨(some 22), (.bin .quo (.t 21) (.c (.int 11))), none, 2⟩, ⟨(some 23), (.call (.c (.fn 22 [])) [(.t 22), (.c (.int 6))]), none, 2⟩, ⟨(some 24), (.mov (.t 0)), none, 2⟩, ⟨(some 25), (.bin .quo (.t 24) (.c (.int 13))), none, 2⟩, ⟨(some 26), (.call (.c (.fn 22 [])) [(.t 25), (.c (.int 1000))]), none, 2⟩, ⟨(some 27), (.mov (.t 0)), none, 2⟩, ⟨(some 28), (.bin .quo (.t 27) (.c (.int 17))), none, 2⟩, ⟨(some 29), (.call (.c (.fn 22 [])) [(.t 28), (.c (.int 1099511627776))]), none, 2⟩, ⟨(some 30), (.build [(.int 0), (.str []), (.sl true 0 0 (.agg []) true), (.u32 0), (.u32 0), (.u32 0), (.u32 0), (.u32 0), (.u32 0), (.u32 0), (.u32 0), (.u32 0), (.u32 0), (.u32 0), (.u32 0), (.u32 0), (.u32 0), (.u32 0), (.u32 0), (.sl true 0 0 (.agg []) true), (.int 0), (.int 0), (.int 0)] [(0, (1, (.t 10))), (1, (1, (.t 12))), (3, (8, (.t 16))), (11, (8, (.t 20))), (20, (1, (.t 23))), (21, (1, (.t 26))), (22, (1, (.t 29)))]), none, 2⟩, ⟨(some 7), (.alloc (.agg [(.int 0), (.str []), (.sl true 0 0 (.agg []) true), (.u32 0), (.u32 0), (.u32 0), (.u32 0), (.u32 0), (.u32 0), (.u32 0), (.u32 0), (.u32 0), (.u32 0), (.u32 0), (.u32 0), (.u32 0), (.u32 0), (.u32 0), (.u32 0), (.sl true 0 0 (.agg []) true), (.int 0), (.int 0), (.int 0)])), none, 2⟩, ⟨none, (.store (some 23) (.t 7) (.t 30)), none, 2⟩] [])
 (.seq (.reg [⟨(some 31), (.fad 2 (.t 7)), none, 0⟩, ⟨(some 32), (.load none (.t 31)), none, 1⟩, ⟨(some 33), (.mov (.t 2)), none, 0⟩, ⟨(some 34), (.mov (.t 0)), none, 0⟩, ⟨(some 35), (.mov (.t 2)), none, 0⟩, ⟨(some 36), (.len false (.t 35)), none, 0⟩, ⟨(some 37), (.mn (.t 36) (.c (.int 16))), none, 0⟩, ⟨(some 38), (.bin .add (.t 37) (.c (.int 1))), none, 0⟩, ⟨(some 39), (.call (.c (.fn 22 [])) [(.t 34), (.t 38)]), none, 0⟩, ⟨(some 40), (.slcS 1 (.t 33) none (some (.t 39)) none), none, 0⟩, ⟨(some 41), (.app true 1 1 (.t 32) (.t 40)), none, 2⟩, ⟨(some 42), (.fad 2 (.t 7)), none, 0⟩, ⟨none, (.store none (.t 42) (.t 41)), none, 2⟩] [])
 (.seq (.reg [⟨(some 43), (.fad 19 (.t 7)), none, 0⟩, ⟨(some 44), (.load none (.t 43)), none, 1⟩, ⟨(some 45), (.mov (.t 2)), none, 0⟩, ⟨(some 46), (.mov (.t 0)), none, 0⟩, ⟨(some 47), (.bin .quo (.t 46) (.c (.int 3))), none, 0⟩, ⟨(some 48), (.mov (.t 2)), none, 0⟩, ⟨(some 49), (.len false (.t 48)), none, 0⟩, ⟨(some 50), (.mn (.t 49) (.c (.int 48))), none, 0⟩, ⟨(some 51), (.bin .add (.t 50) (.c (.int 1))), none, 0⟩, ⟨(some 52), (.call (.c (.fn 22 [])) [(.t 47), (.t 51)]), none, 0⟩, ⟨(some 53), (.slcS 1 (.t 45) none (some (.t 52)) none), none, 0⟩, ⟨(some 54), (.app true 1 1 (.t 44) (.t 53)), none, 2⟩, ⟨(some 55), (.fad 19 (.t 7)), none, 0⟩, ⟨none, (.store none (.t 55) (.t 54)), none, 2⟩] [])
 (.seq (.reg [⟨(some 56), (.load (some 23) (.t 7)), none, 2⟩, ⟨none, (.store (some 23) (.t 6) (.t 56)), none, 2⟩] [])
 .ret)))))
theorem o34 : FnOK Try.prog 34 N34 res34 c34 := ⟨_, _, Try.f34.results.toList, [], pures, Try.func34, show _ = some (Try.f34.body.getD .skip) by kernel_rfl, (Array.toArray_toList).symm, by kernel_rfl, by kernel_rfl, by kernel_rfl, by kernel_rfl, follows, callFunc_enter Try.func34 (by kernel_rfl) (by kernel_rfl)⟩
-- sentinel/wire.Record
def N35 : Nat := 119
def keep35 : List Nat := [0, 1, 2, 3, 4, 6, 64, 76, 77, 78, 79]
def res35 : List RV := [(.t 2), (.t 3)]
def c35 : CC :=
 (.seq (.reg [⟨(some 1), (.box (.t 0)), none, 2⟩, ⟨(some 2), (.mov (.c (.sl true 0 0 (.agg []) true))), none, 2⟩, ⟨(some 3), (.mov (.c (.bool false))), none, 2⟩] [])
 (.seq (.seq (.reg [⟨(some 7), (.fad 0 (.t 1)), none, 2⟩, ⟨(some 8), (.load none (.t 7)), none, 2⟩, ⟨(some 9), (.eq true .sc (.t 8) (.c (.int 1))), none, 2⟩, ⟨(some 10), (.mov (.t 9)), none, 2⟩, ⟨(some 11), (.fad 0 (.t 1)), (some (10, true)), 2⟩, ⟨(some 12), (.load none (.t 11)), (some (10, true)), 2⟩, ⟨(some 13), (.eq true .sc (.t 12) (.c (.int 2))), (some (10, true)), 2⟩, ⟨(some 14), (.pick (.t 10) (.t 13) (.c (.bool false))), none, 2⟩, ⟨(some 15), (.mov (.t 14)), none, 2⟩, ⟨(some 16), (.fad 1 (.t 1)), (some (15, false)), 2⟩, ⟨(some 17), (.load none (.t 16)), (some (15, false)), 2⟩, ⟨(some 18), (.call (.c (.fn 60 [])) [(.t 17)]), (some (15, false)), 2⟩, ⟨(some 19), (.un .not (.t 18)), (some (15, false)), 2⟩, ⟨(some 20), (.pick (.t 15) (.c (.bool true)) (.t 19)), none, 2⟩, ⟨(some 21), (.mov (.t 20)), none, 2⟩, ⟨(some 22), (.fad 2 (.t 1)), (some (21, false)), 2⟩, ⟨(some 23), (.load none (.t 22)), (some (21, false)), 2⟩, ⟨(some 24), (.len false (.t 23)), (some (21, false)), 2⟩, ⟨(some 25), (.bin .gtr (.t 24) (.c (.int 16))), (some (21, false)), 2⟩, ⟨(some 26), (.pick (.t 21) (.c (.bool true)) (.t 25)), none, 2⟩, ⟨(some 27), (.mov (.t 26)), none, 2⟩, ⟨(some 28), (.fad 19 (.t 1)), (some (27, false)), 2⟩, ⟨(some 29), (.load none (.t 28)), (some (27, false)), 2⟩, ⟨(some 30), (.len false (.t 29)), (some (27, false)), 2⟩, ⟨(some 31), (.bin .gtr (.t 30) (.c (.int 48))), (some (27, false)), 2⟩, ⟨(some 32), (.pick (.t 27) (.c (.bool true)) (.t 31)), none, 2⟩, ⟨(some 33), (.mov (.t 32)), none, 2⟩, ⟨(some 34), (.fad 3 (.t 1)), (some (33, false)), 2⟩, ⟨(some 35), (.load (some 8) (.t 34)), (some (33, false)), 2⟩, ⟨(some 36), (.call (.c (.fn 61 [])) [(.t 35)]), (some (33, false)), 2⟩, ⟨(some 37), (.bin .gtr (.t 36) (.c (.int 32))), (some (33, false)), 2⟩, ⟨(some 38), (.pick (.t 33) (.c (.bool true)) (.t 37)), none, 2⟩, ⟨(some 39), (.mov (.t 38)), none, 2⟩, ⟨(some 40), (.fad 11 (.t 1)), (some (39, false)), 2⟩, ⟨(some 41), (.load (some 8) (.t 40)), (some (39, false)), 2⟩, ⟨(some 42), (.call (.c (.fn 61 [])) [(.t 41)]), (some (39, false)), 2⟩, ⟨(some 43), (.bin .gtr (.t 42) (.c (.int 32))), (some (39, false)), 2⟩, ⟨(some 44), (.pick (.t 39) (.c (.bool true)) (.t 43)), none, 2⟩, ⟨(some 45), (.mov (.t 44)), none, 2⟩, ⟨(some 46), (.fad 20 (.t 1)), (some (45, false)), 2⟩, ⟨(some 47), (.load none (.t 46)), (some (45, false)), 2⟩, ⟨(some 48), (.bin .lss (.t 47) (.c (.int 0))), (some (45, false)), 2⟩, ⟨(some 49), (.pick (.t 45) (.c (.bool true)) (.t 48)), none, 2⟩, ⟨(some 50), (.mov (.t 49)), none, 2⟩, ⟨(some 51), (.fad 20 (.t 1)), (some (50, false)), 2⟩, ⟨(some 52), (.load none (.t 51)), (some (50, false)), 2⟩, ⟨(some 53), (.bin .gtr (.t 52) (.c (.int 255))), (some (50, false)), 2⟩, ⟨(some 54), (.pick (.t 50) (.c (.bool true)) (.t 53)), none, 2⟩, ⟨(some 55), (.mov (.t 54)), none, 2⟩, ⟨(some 56), (.fad 21 (.t 1)), (some (55, false)), 2⟩, ⟨(some 57), (.load none (.t 56)), (some (55, false)), 2⟩, ⟨(some 58), (.bin .lss (.t 57) (.c (.int 0))), (some (55, false)), 2⟩, ⟨(some 59), (.pick (.t 55) (.c (.bool true)) (.t 58)), none, 2⟩, ⟨(some 60), (.mov (.t 59)), none, 2⟩, ⟨(some 61), (.fad 22 (.t 1)), (some (60, false)), 2⟩, ⟨(some 62), (.load none (.t 61)), (some (60, false)), 2⟩, ⟨(some 63), (.bin .lss (.t 62) (.c (.int 0))), (some (60, false)), 2⟩, ⟨(some 64), (.pick (.t 60) (.c (.bool true)) (.t 63)), none, 2⟩] [])
 (.cond (.t 64)
 (.seq (.reg [⟨(some 2), (.mov (.c (.sl true 0 0 (.agg []) true))), none, 2⟩, ⟨(some 3), (.mov (.c (.bool false))), none, 2⟩] [])
 .ret)
 .skip))
 (.seq (.reg [⟨(some 65), (.fad 0 (.t 1)), none, 2⟩, ⟨(some 66), (.load none (.t 65)), none, 2⟩, ⟨(some 67), (.conv .iu8 (.t 66)), none, 2⟩, ⟨(some 68), (.bsl false .u8 1 1 [(.u8 0)] [(0, (1, (.t 67)))]), none, 2⟩, ⟨(some 4), (.mov (.t 68)), none, 2⟩] [])
 (.seq (.seq (.reg [⟨(some 69), (.fad 1 (.t 1)), none, 2⟩, ⟨(some 70), (.load none (.t 69)), none, 2⟩, ⟨(some 71), (.conv (.strb false) (.t 70)), none, 2⟩, ⟨(some 72), (.fad 2 (.t 1)), none, 2⟩, ⟨(some 73), (.load none (.t 72)), none, 2⟩, ⟨(some 74), (.fad 19 (.t 1)), none, 2⟩, ⟨(some 75), (.load none (.t 74)), none, 2⟩, ⟨(some 76), (.bsl false .other 1 3 [(.sl true 0 0 (.agg []) true)] [(0, (1, (.t 71))), (1, (1, (.t 73))), (2, (1, (.t 75)))]), none, 2⟩, ⟨(some 77), (.len false (.t 76)), none, 2⟩, ⟨(some 78), (.mov (.c (.int 0))), none, 2⟩] [])
 (.block 0 (.loop (.seq (.reg [⟨(some 79), (.bin .lss (.t 78) (.t 77)), none, 2⟩] [])
 (.seq (.cond (.t 79)
 .skip
 (.exit 0))
 (.seq (.block 1 (.seq (.reg [⟨(some 80), (.iadS 1 (.t 76) (.t 78)), none, 2⟩, ⟨(some 81), (.load none (.t 80)), none, 2⟩, ⟨(some 6), (.mov (.t 81)), none, 2⟩] [])
 (.reg [⟨(some 82), (.mov (.t 4)), none, 2⟩, ⟨(some 83), (.mov (.t 6)), none, 2⟩, ⟨(some 84), (.len false (.t 83)), none, 2⟩, ⟨(some 85), (.conv .iu8 (.t 84)), none, 2⟩, ⟨(some 86), (.bsl false .u8 1 1 [(.u8 0)] [(0, (1, (.t 85)))]), none, 2⟩, ⟨(some 87), (.app true 1 1 (.t 82) (.t 86)), none, 2⟩, ⟨(some 88), (.mov (.t 6)), none, 2⟩, ⟨(some 89), (.app true 1 1 (.t 87) (.t 88)), none, 2⟩, ⟨(some 4), (.mov (.t 89)), none, 2⟩] [])))
 (.reg [⟨(some 90), (.bin .add (.t 78) (.c (.int 1))), none, 2⟩, ⟨(some 78), (.mov (.t 90)), none, 2⟩] [])))))))
 (.seq (.reg [⟨(some 91), (.mov (.t 4)), none, 0⟩, ⟨(some 92), (.fad 3 (.t 1)), none, 0⟩, ⟨(some 93), (.load (some 8) (.t 92)), none, 1⟩, ⟨(some 94), (.call (.c (.fn 62 [])) [(.t 93), (.c (.int 4))]), none, 0⟩, ⟨(some 95), (.app true 1 1 (.t 91) (.t 94)), none, 2⟩, ⟨(some 96), (.fad 11 (.t 1)), none, 0⟩, ⟨(some 97), (.load (some 8) (.t 96)), none, 1⟩, ⟨(some 98), (.call (.c (.fn 62 [])) [(.t 97), (.c (.int 4))]), none, 0⟩, ⟨(some 99), (.app true 1 1 (.t 95) (.t 98)), none, 2⟩, ⟨(some 4), (.mov (.t 99)), none, 0⟩]
 [(96, 95)])
 (.seq (.reg [⟨(some 100), (.mov (.t 4)), none, 2⟩, ⟨(some 101), (.fad 20 (.t 1)), none, 2⟩, ⟨(some 102), (.load none (.t 101)), none, 2⟩, ⟨(some 103), (.conv .iu8 (.t 102)), none, 2⟩, ⟨(some 104), (.bsl false .u8 1 1 [(.u8 0)] [(0, (1, (.t 103)))]), none, 2⟩, ⟨(some 105), (.app true 1 1 (.t 100) (.t 104)), none, 2⟩, ⟨(some 4), (.mov (.t 105)), none, 2⟩] [])
 (.seq (.reg [⟨(some 106), (.mov (.t 4)), none, 0⟩, ⟨(some 107), (.fad 21 (.t 1)), none, 0⟩, ⟨(some 108), (.load none (.t 107)), none, 1⟩, ⟨(some 109), (.call (.c (.fn 63 [])) [(.t 108)]), none, 0⟩, ⟨(some 110), (.call (.c (.fn 62 [])) [(.t 109), (.c (.int 8))]), none, 0⟩, ⟨(some 111), (.app true 1 1 (.t 106) (.t 110)), none, 2⟩, ⟨(some 112), (.fad 22 (.t 1)), none, 0⟩, ⟨(some 113), (.load none (.t 112)), none, 1⟩, ⟨(some 114), (.call (.c (.fn 63 [])) [(.t 113)]), none, 0⟩, ⟨(some 115), (.call (.c (.fn 62 [])) [(.t 114), (.c (.int 8))]), none, 0⟩, ⟨(some 116), (.app true 1 1 (.t 111) (.t 115)), none, 2⟩, ⟨(some 4), (.mov (.t 116)), none, 0⟩]
 [(112, 111)])
 (.seq (.reg [⟨(some 117), (.mov (.t 4)), none, 2⟩, ⟨(some 118), (.call (.c (.fn 64 [])) [(.t 117)]), none, 2⟩, ⟨(some 2), (.mov (.t 118)), none, 2⟩, ⟨(some 3), (.mov (.c (.bool true))), none, 2⟩] [])
 .ret))))))))
theorem o35 : FnOK Try.prog 35 N35 res35 c35 := ⟨_, _, Try.f35.results.toList, [], pures, Try.func35, show _ = some (Try.f35.body.getD .skip) by kernel_rfl, (Array.toArray_toList).symm, by kernel_rfl, by kernel_rfl, by kernel_rfl, by kernel_rfl, follows, callFunc_enter Try.func35 (by kernel_rfl) (by kernel_rfl)⟩
-- sentinel/sentinelref5.Record
def N36 : Nat := 118
def keep36 : List Nat := [0, 1, 2, 3, 4, 62]
def res36 : List RV := [(.t 2), (.t 3)]
def c36 : CC :=
 (.seq (.reg [⟨(some 1), (.box (.t 0)), none, 2⟩, ⟨(some 2), (.mov (.c (.sl true 0 0 (.agg []) true))), none, 2⟩, ⟨(some 3), (.mov (.c (.bool false))), none, 2⟩] [])
 (.seq (.seq (.reg [⟨(some 5), (.fad 0 (.t 1)), none, 2⟩, ⟨(some 6), (.load none (.t 5)), none, 2⟩, ⟨(some 7), (.bin .lss (.t 6) (.c (.int 1))), none, 2⟩, ⟨(some 8), (.mov (.t 7)), none, 2⟩, ⟨(some 9), (.fad 0 (.t 1)), (some (8, false)), 2⟩, ⟨(some 10), (.load none (.t 9)), (some (8, false)), 2⟩, ⟨(some 11), (.bin .gtr (.t 10) (.c (.int 2))), (some (8, false)), 2⟩, ⟨(some 12), (.pick (.t 8) (.c (.bool true)) (.t 11)), none, 2⟩, ⟨(some 13), (.mov (.t 12)), none, 2⟩, ⟨(some 14), (.fad 1 (.t 1)), (some (13, false)), 2⟩, ⟨(some 15), (.load none (.t 14)), (some (13, false)), 2⟩, ⟨(some 16), (.call (.c (.fn 58 [])) [(.t 15)]), (some (13, false)), 2⟩, ⟨(some 17), (.un .not (.t 16)), (some (13, false)), 2⟩, ⟨(some 18), (.pick (.t 13) (.c (.bool true)) (.t 17)), none, 2⟩, ⟨(some 19), (.mov (.t 18)), none, 2⟩, ⟨(some 20), (.fad 2 (.t 1)), (some (19, false)), 2⟩, ⟨(some 21), (.load none (.t 20)), (some (19, false)), 2⟩, ⟨(some 22), (.len false (.t 21)), (some (19, false)), 2⟩, ⟨(some 23), (.bin .gtr (.t 22) (.c (.int 16))), (some (19, false)), 2⟩, ⟨(some 24), (.pick (.t 19) (.c (.bool true)) (.t 23)), none, 2⟩, ⟨(some 25), (.mov (.t 24)), none, 2⟩, ⟨(some 26), (.fad 19 (.t 1)), (some (25, false)), 2⟩, ⟨(some 27), (.load none (.t 26)), (some (25, false)), 2⟩, ⟨(some 28), (.len false (.t 27)), (some (25, false)), 2⟩, ⟨(some 29), (.bin .gtr (.t 28) (.c (.int 48))), (some (25, false)), 2⟩, ⟨(some 30), (.pick (.t 25) (.c (.bool true)) (.t 29)), none, 2⟩, ⟨(some 31), (.mov (.t 30)), none, 2⟩, ⟨(some 32), (.fad 3 (.t 1)), (some (31, false)), 2⟩, ⟨(some 33), (.load (some 8) (.t 32)), (some (31, false)), 2⟩, ⟨(some 34), (.call (.c (.fn 59 [])) [(.t 33)]), (some (31, false)), 2⟩, ⟨(some 35), (.un .not (.t 34)), (some (31, false)), 2⟩, ⟨(some 36), (.pick (.t 31) (.c (.bool true)) (.t 35)), none, 2⟩, ⟨(some 37), (.mov (.t 36)), none, 2⟩, ⟨(some 38), (.fad 11 (.t 1)), (some (37, false)), 2⟩, ⟨(some 39), (.load (some 8) (.t 38)), (some (37, false)), 2⟩, ⟨(some 40), (.call (.c (.fn 59 [])) [(.t 39)]), (some (37, false)), 2⟩, ⟨(some 41), (.un .not (.t 40)), (some (37, false)), 2⟩, ⟨(some 42), (.pick (.t 37) (.c (.bool true)) (.t 41)), none, 2⟩, ⟨(some 43), (.mov (.t 42)), none, 2⟩, ⟨(some 44), (.fad 20 (.t 1)), (some (43, false)), 2⟩, ⟨(some 45), (.load none (.t 44)), (some (43, false)), 2⟩, ⟨(some 46), (.bin .lss (.t 45) (.c (.int 0))), (some (43, false)), 2⟩, ⟨(some 47), (.pick (.t 43) (.c (.bool true)) (.t 46)), none, 2⟩, ⟨(some 48), (.mov (.t 47)), none, 2⟩, ⟨(some 49), (.fad 20 (.t 1)), (some (48, false)), 2⟩, ⟨(some 50), (.load none (.t 49)), (some (48, false)), 2⟩, ⟨(some 51), (.bin .gtr (.t 50) (.c (.int 255))), (some (48, false)), 2⟩, ⟨(some 52), (.pick (.t 48) (.c (.bool true)) (.t 51)), none, 2⟩, ⟨(some 53), (.mov (.t 52)), none, 2⟩, ⟨(some 54), (.fad 21 (.t 1)), (some (53, false)), 2⟩, ⟨(some 55), (.load none (.t 54)), (some (53, false)), 2⟩, ⟨(some 56), (.bin .lss (.t 55) (.c (.int 0))), (some (53, false)), 2⟩, ⟨(some 57), (.pick (.t 53) (.c (.bool true)) (.t 56)), none, 2⟩, ⟨(some 58), (.mov (.t 57)), none, 2⟩, ⟨(some 59), (.fad 22 (.t 1)), (some (58, false)), 2⟩, ⟨(some 60), (.load none (.t 59)), (some (58, false)), 2⟩, ⟨(some 61), (.bin .lss (.t 60) (.c (.int 0))), (some (58, false)), 2⟩, ⟨(some 62), (.pick (.t 58) (.c (.bool true)) (.t 61)), none, 2⟩] [])
 (.cond (.t 62)
 (.seq (.reg [⟨(some 2), (.mov (.c (.sl true 0 0 (.agg []) true))), none, 2⟩, ⟨(some 3), (.mov (.c (.bool false))), none, 2⟩] [])
 .ret)
 .skip))
 (.seq (.reg [⟨(some 63), (.fad 0 (.t 1)), none, 2⟩, ⟨(some 64), (.load none (.t 63)), none, 2⟩, ⟨(some 65), (.conv .iu8 (.t 64)), none, 2⟩, ⟨(some 66), (.fad 1 (.t 1)), none, 2⟩, ⟨(some 67), (.load none (.t 66)), none, 2⟩, ⟨(some 68), (.len true (.t 67)), none, 2⟩, ⟨(some 69), (.conv .iu8 (.t 68)), none, 2⟩, ⟨(some 70), (.bsl false .u8 1 2 [(.u8 0)] [(0, (1, (.t 65))), (1, (1, (.t 69)))]), none, 2⟩, ⟨(some 71), (.fad 1 (.t 1)), none, 2⟩, ⟨(some 72), (.load none (.t 71)), none, 2⟩, ⟨(some 73), (.conv (.strb false) (.t 72)), none, 2⟩, ⟨(some 74), (.app true 1 1 (.t 70) (.t 73)), none, 2⟩, ⟨(some 4), (.mov (.t 74)), none, 2⟩] [])
 (.seq (.reg [⟨(some 75), (.mov (.t 4)), none, 0⟩, ⟨(some 76), (.fad 2 (.t 1)), none, 0⟩, ⟨(some 77), (.load none (.t 76)), none, 1⟩, ⟨(some 78), (.len false (.t 77)), none, 0⟩, ⟨(some 79), (.conv .iu8 (.t 78)), none, 0⟩, ⟨(some 80), (.bsl false .u8 1 1 [(.u8 0)] [(0, (1, (.t 79)))]), none, 0⟩, ⟨(some 81), (.app true 1 1 (.t 75) (.t 80)), none, 2⟩, ⟨(some 82), (.fad 2 (.t 1)), none, 0⟩, ⟨(some 83), (.load none (.t 82)), none, 1⟩, ⟨(some 84), (.app true 1 1 (.t 81) (.t 83)), none, 2⟩, ⟨(some 4), (.mov (.t 84)), none, 0⟩]
 [(82, 81)])
 (.seq (.reg [⟨(some 85), (.mov (.t 4)), none, 0⟩, ⟨(some 86), (.fad 19 (.t 1)), none, 0⟩, ⟨(some 87), (.load none (.t 86)), none, 1⟩, ⟨(some 88), (.len false (.t 87)), none, 0⟩, ⟨(some 89), (.conv .iu8 (.t 88)), none, 0⟩, ⟨(some 90), (.bsl false .u8 1 1 [(.u8 0)] [(0, (1, (.t 89)))]), none, 0⟩, ⟨(some 91), (.app true 1 1 (.t 85) (.t 90)), none, 2⟩, ⟨(some 92), (.fad 19 (.t 1)), none, 0⟩, ⟨(some 93), (.load none (.t 92)), none, 1⟩, ⟨(some 94), (.app true 1 1 (.t 91) (.t 93)), none, 2⟩, ⟨(some 4), (.mov (.t 94)), none, 0⟩]
 [(92, 91)])
 (.seq (.reg [⟨(some 95), (.mov (.t 4)), none, 0⟩, ⟨(some 96), (.fad 3 (.t 1)), none, 0⟩, ⟨(some 97), (.load (some 8) (.t 96)), none, 1⟩, ⟨(some 98), (.call (.c (.fn 65 [])) [(.t 97)]), none, 0⟩, ⟨(some 99), (.app true 1 1 (.t 95) (.t 98)), none, 2⟩, ⟨(some 100), (.fad 11 (.t 1)), none, 0⟩, ⟨(some 101), (.load (some 8) (.t 100)), none, 1⟩, ⟨(some 102), (.call (.c (.fn 65 [])) [(.t 101)]), none, 0⟩, ⟨(some 103), (.app true 1 1 (.t 99) (.t 102)), none, 2⟩, ⟨(some 104), (.fad 20 (.t 1)), none, 0⟩, ⟨(some 105), (.load none (.t 104)), none, 1⟩, ⟨(some 106), (.conv .iu8 (.t 105)), none, 0⟩, ⟨(some 107), (.bsl false .u8 1 1 [(.u8 0)] [(0, (1, (.t 106)))]), none, 0⟩, ⟨(some 108), (.app true 1 1 (.t 103) (.t 107)), none, 2⟩, ⟨(some 4), (.mov (.t 108)), none, 0⟩]
 [(100, 99), (104, 99), (104, 103)])
 (.seq (.reg [⟨(some 109), (.mov (.t 4)), none, 0⟩, ⟨(some 110), (.fad 21 (.t 1)), none, 0⟩, ⟨(some 111), (.load none (.t 110)), none, 1⟩, ⟨(some 112), (.call (.c (.fn 66 [])) [(.t 111)]), none, 0⟩, ⟨(some 113), (.app true 1 1 (.t 109) (.t 112)), none, 2⟩, ⟨(some 114), (.fad 22 (.t 1)), none, 0⟩, ⟨(some 115), (.load none (.t 114)), none, 1⟩, ⟨(some 116), (.call (.c (.fn 66 [])) [(.t 115)]), none, 0⟩, ⟨(some 117), (.app true 1 1 (.t 113) (.t 116)), none, 2⟩, ⟨(some 2), (.mov (.t 117)), none, 0⟩, ⟨(some 3), (.mov (.c (.bool true))), none, 0⟩]
 [(114, 113)])
 .ret)))))))
theorem o36 : FnOK Try.prog 36 N36 res36 c36 := ⟨_, _, Try.f36.results.toList, [], pures, Try.func36, show _ = some (Try.f36.body.getD .skip) by kernel_rfl, (Array.toArray_toList).symm, by kernel_rfl, by kernel_rfl, by kernel_rfl, by kernel_rfl, follows, callFunc_enter Try.func36 (by kernel_rfl) (by kernel_rfl)⟩
-- sentinel/wire.ReadRecord
def N37 : Nat := 60
def keep37 : List Nat := [0, 2, 3, 4, 5, 6, 7, 57]
def res37 : List RV := [(.c 2 (some 23)), (.t 3)]
def c37 : CC :=
 (.seq (.reg [⟨(some 2), (.alloc (.agg [(.int 0), (.str []), (.sl true 0 0 (.agg []) true), (.u32 0), (.u32 0), (.u32 0), (.u32 0), (.u32 0), (.u32 0), (.u32 0), (.u32 0), (.u32 0), (.u32 0), (.u32 0), (.u32 0), (.u32 0), (.u32 0), (.u32 0), (.u32 0), (.sl true 0 0 (.agg []) true), (.int 0), (.int 0), (.int 0)])), none, 2⟩, ⟨(some 3), (.mov (.c (.bool false))), none, 2⟩] [])
 (.seq (.reg [⟨(some 8), (.mov (.t 0)), none, 2⟩, ⟨(some 9), (.build [(.sl true 0 0 (.agg []) true), (.bool false)] [(0, (1, (.t 8)))]), none, 2⟩, ⟨(some 10), (.box (.t 9)), none, 2⟩, ⟨(some 4), (.mov (.t 10)), none, 2⟩] [])
 (.seq (.reg [⟨(some 11), (.mov (.t 4)), none, 2⟩, ⟨(some 12), (.call (.c (.fn 52 [])) [(.t 11), (.c (.int 1))]), none, 2⟩, ⟨(some 13), (.build [(.int 0), (.str []), (.sl true 0 0 (.agg []) true), (.u32 0), (.u32 0), (.u32 0), (.u32 0), (.u32 0), (.u32 0), (.u32 0), (.u32 0), (.u32 0), (.u32 0), (.u32 0), (.u32 0), (.u32 0), (.u32 0), (.u32 0), (.u32 0), (.sl true 0 0 (.agg []) true), (.int 0), (.int 0), (.int 0)] [(0, (1, (.t 12)))]), none, 2⟩, ⟨(some 5), (.alloc (.agg [(.int 0), (.str []), (.sl true 0 0 (.agg []) true), (.u32 0), (.u32 0), (.u32 0), (.u32 0), (.u32 0), (.u32 0), (.u32 0), (.u32 0), (.u32 0), (.u32 0), (.u32 0), (.u32 0), (.u32 0), (.u32 0), (.u32 0), (.u32 0), (.sl true 0 0 (.agg []) true), (.int 0), (.int 0), (.int 0)])), none, 2⟩, ⟨none, (.store (some 23) (.t 5) (.t 13)), none, 2⟩] [])
 (.seq (.reg [⟨(some 14), (.mov (.t 4)), none, 2⟩, ⟨(some 15), (.call (.c (.fn 54 [])) [(.t 14)]), none, 2⟩, ⟨(some 16), (.conv .bstr (.t 15)), none, 2⟩, ⟨(some 17), (.fad 1 (.t 5)), none, 2⟩, ⟨none, (.store none (.t 17) (.t 16)), none, 2⟩] [])
 (.seq (.reg [⟨(some 18), (.mov (.t 4)), none, 2⟩, ⟨(some 19), (.call (.c (.fn 54 [])) [(.t 18)]), none, 2⟩, ⟨(some 20), (.fad 2 (.t 5)), none, 2⟩, ⟨none, (.store none (.t 20) (.t 19)), none, 2⟩] [])
 (.seq (.reg [⟨(some 21), (.mov (.t 4)), none, 2⟩, ⟨(some 22), (.call (.c (.fn 54 [])) [(.t 21)]), none, 2⟩, ⟨(some 23), (.fad 19 (.t 5)), none, 2⟩, ⟨none, (.store none (.t 23) (.t 22)), none, 2⟩] [])
 (.seq (.reg [⟨(some 24), (.mov (.t 4)), none, 2⟩, ⟨(some 25), (.call (.c (.fn 67 [])) [(.t 24), (.c (.int 4))]), none, 2⟩, ⟨(some 26), (.fad 3 (.t 5)), none, 2⟩, ⟨none, (.store (some 8) (.t 26) (.t 25)), none, 2⟩] [])
 (.seq (.reg [⟨(some 27), (.mov (.t 4)), none, 2⟩, ⟨(some 28), (.call (.c (.fn 67 [])) [(.t 27), (.c (.int 4))]), none, 2⟩, ⟨(some 29), (.fad 11 (.t 5)), none, 2⟩, ⟨none, (.store (some 8) (.t 29) (.t 28)), none, 2⟩] [])
 (.seq (.reg [⟨(some 30), (.mov (.t 4)), none, 2⟩, ⟨(some 31), (.call (.c (.fn 52 [])) [(.t 30), (.c (.int 1))]), none, 2⟩, ⟨(some 32), (.fad 20 (.t 5)), none, 2⟩, ⟨none, (.store none (.t 32) (.t 31)), none, 2⟩] [])
 (.seq (.reg [⟨(some 33), (.mov (.t 4)), none, 2⟩, ⟨(some 34), (.call (.c (.fn 52 [])) [(.t 33), (.c (.int 8))]), none, 2⟩, ⟨(some 35), (.fad 21 (.t 5)), none, 2⟩, ⟨none, (.store none (.t 35) (.t 34)), none, 2⟩] [])
 (.seq (.reg [⟨(some 36), (.mov (.t 4)), none, 2⟩, ⟨(some 37), (.call (.c (.fn 52 [])) [(.t 36), (.c (.int 8))]), none, 2⟩, ⟨(some 38), (.fad 22 (.t 5)), none, 2⟩, ⟨none, (.store none (.t 38) (.t 37)), none, 2⟩] [])
 (.seq (.reg [⟨(some 40), (.load (some 23) (.t 5)), none, 2⟩, ⟨(some 41), (.call (.c (.fn 35 [])) [(.t 40)]), none, 2⟩, ⟨(some 39), (.mov (.t 41)), none, 2⟩, ⟨(some 42), (.ext (.t 39) 0), none, 2⟩, ⟨(some 43), (.ext (.t 39) 1), none, 2⟩, ⟨(some 6), (.mov (.t 42)), none, 2⟩, ⟨(some 7), (.mov (.t 43)), none, 2⟩] [])
 (.seq (.seq (.reg [⟨(some 44), (.mov (.t 7)), none, 2⟩, ⟨(some 45), (.un .not (.t 44)), none, 2⟩, ⟨(some 46), (.mov (.t 45)), none, 2⟩, ⟨(some 47), (.mov (.t 4)), (some (46, false)), 2⟩, ⟨(some 48), (.nilck (.t 47)), (some (46, false)), 2⟩, ⟨(some 49), (.fad 1 (.t 48)), (some (46, false)), 2⟩, ⟨(some 50), (.load none (.t 49)), (some (46, false)), 2⟩, ⟨(some 51), (.pick (.t 46) (.c (.bool true)) (.t 50)), none, 2⟩, ⟨(some 52), (.mov (.t 51)), none, 2⟩, ⟨(some 53), (.mov (.t 6)), (some (52, false)), 2⟩, ⟨(some 54), (.mov (.t 0)), (some (52, false)), 2⟩, ⟨(some 55), (.call (.c (.fn 55 [])) [(.t 53), (.t 54)]), (some (52, false)), 2⟩, ⟨(some 56), (.un .not (.t 55)), (some (52, false)), 2⟩, ⟨(some 57), (.pick (.t 52) (.c (.bool true)) (.t 56)), none, 2⟩] [])
 (.cond (.t 57)
 (.seq (.reg [⟨(some 58), (.build [(.int 0), (.str []), (.sl true 0 0 (.agg []) true), (.u32 0), (.u32 0), (.u32 0), (.u32 0), (.u32 0), (.u32 0), (.u32 0), (.u32 0), (.u32 0), (.u32 0), (.u32 0), (.u32 0), (.u32 0), (.u32 0), (.u32 0), (.u32 0), (.sl true 0 0 (.agg []) true), (.int 0), (.int 0), (.int 0)] []), none, 2⟩, ⟨none, (.store (some 23) (.t 2) (.t 58)), none, 2⟩, ⟨(some 3), (.mov (.c (.bool false))), none, 2⟩] [])
 .ret)
 .skip))
 (.seq (.reg [⟨(some 59), (.load (some 23) (.t 5)), none, 2⟩, ⟨none, (.store (some 23) (.t 2) (.t 59)), none, 2⟩, ⟨(some 3), (.mov (.c (.bool true))), none, 2⟩] [])
 .ret))))))))))))))
theorem o37 : FnOK Try.prog 37 N37 res37 c37 := ⟨_, _, Try.f37.results.toList, [], pures, Try.func37, show _ = some (Try.f37.body.getD .skip) by kernel_rfl, (Array.toArray_toList).symm, by kernel_rfl, by kernel_rfl, by kernel_rfl, by kernel_rfl, follows, callFunc_enter Try.func37 (by kernel_rfl) (by kernel_rfl)⟩
-- sentinel/sentinelref5.Records
def N38 : Nat := 70
def keep38 : List Nat := [0, 1, 2, 3, 4]
def res38 : List RV := [(.t 4)]
def c38 : CC :=
 (.seq (.reg [⟨(some 2), (.box (.t 0)), none, 2⟩, ⟨(some 3), (.box (.t 1)), none, 2⟩, ⟨(some 4), (.mov (.c (.bool false))), none, 2⟩] [])
 (.seq (.reg [⟨(some 5), (.fad 0 (.t 2)), none, 2⟩, ⟨(some 6), (.load none (.t 5)), none, 2⟩, ⟨(some 7), (.fad 0 (.t 3)), none, 2⟩, ⟨(some 8), (.load none (.t 7)), none, 2⟩, ⟨(some 9), (.eq false .sc (.t 6) (.t 8)), none, 2⟩, ⟨(some 10), (.mov (.t 9)), none, 2⟩, ⟨(some 11), (.fad 1 (.t 2)), (some (10, true)), 2⟩, ⟨(some 12), (.load none (.t 11)), (some (10, true)), 2⟩, ⟨(some 13), (.fad 1 (.t 3)), (some (10, true)), 2⟩, ⟨(some 14), (.load none (.t 13)), (some (10, true)), 2⟩, ⟨(some 15), (.eq false .sc (.t 12) (.t 14)), (some (10, true)), 2⟩, ⟨(some 16), (.pick (.t 10) (.t 15) (.c (.bool false))), none, 2⟩, ⟨(some 17), (.mov (.t 16)), none, 2⟩, ⟨(some 18), (.fad 2 (.t 2)), (some (17, true)), 2⟩, ⟨(some 19), (.load none (.t 18)), (some (17, true)), 2⟩, ⟨(some 20), (.conv .bstr (.t 19)), (some (17, true)), 2⟩, ⟨(some 21), (.fad 2 (.t 3)), (some (17, true)), 2⟩, ⟨(some 22), (.load none (.t 21)), (some (17, true)), 2⟩, ⟨(some 23), (.conv .bstr (.t 22)), (some (17, true)), 2⟩, ⟨(some 24), (.eq false .sc (.t 20) (.t 23)), (some (17, true)), 2⟩, ⟨(some 25), (.pick (.t 17) (.t 24) (.c (.bool false))), none, 2⟩, ⟨(some 26), (.mov (.t 25)), none, 2⟩, ⟨(some 27), (.fad 3 (.t 2)), (some (26, true)), 2⟩, ⟨(some 28), (.load (some 8) (.t 27)), (some (26, true)), 2⟩, ⟨(some 29), (.fad 3 (.t 3)), (some (26, true)), 2⟩, ⟨(some 30), (.load (some 8) (.t 29)), (some (26, true)), 2⟩, ⟨(some 31), (.eq false (.arr 8) (.t 28) (.t 30)), (some (26, true)), 2⟩, ⟨(some 32), (.pick (.t 26) (.t 31) (.c (.bool false))), none, 2⟩, ⟨(some 33), (.mov (.t 32)), none, 2⟩, ⟨(some 34), (.fad 11 (.t 2)), (some (33, true)), 2⟩, ⟨(some 35), (.load (some 8) (.t 34)), (some (33, true)), 2⟩, ⟨(some 36), (.fad 11 (.t 3)), (some (33, true)), 2⟩, ⟨(some 37), (.load (some 8) (.t 36)), (some (33, true)), 2⟩, ⟨(some 38), (.eq false (.arr 8) (.t 35) (.t 37)), (some (33, true)), 2⟩, ⟨(some 39), (.pick (.t 33) (.t 38) (.c (.bool false))), none, 2⟩, ⟨(some 40), (.mov (.t 39)), none, 2⟩, ⟨(some 41), (.fad 19 (.t 2)), (some (40, true)), 2⟩, ⟨(some 42), (.load none (.t 41)), (some (40, true)), 2⟩, ⟨(some 43), (.conv .bstr (.t 42)), (some (40, true)), 2⟩, ⟨(some 44), (.fad 19 (.t 3)), (some (40, true)), 2⟩, ⟨(some 45), (.load none (.t 44)), (some (40, true)), 2⟩, ⟨(some 46), (.conv .bstr (.t 45)), (some (40, true)), 2⟩, ⟨(some 47), (.eq false .sc (.t 43) (.t 46)), (some (40, true)), 2⟩, ⟨(some 48), (.pick (.t 40) (.t 47) (.c (.bool false))), none, 2⟩, ⟨(some 49), (.mov (.t 48)), none, 2⟩, ⟨(some 50), (.fad 20 (.t 2)), (some (49, true)), 2⟩, ⟨(some 51), (.load none (.t 50)), (some (49, true)), 2⟩, ⟨(some 52), (.fad 20 (.t 3)), (some (49, true)), 2⟩, ⟨(some 53), (.load none (.t 52)), (some (49, true)), 2⟩, ⟨(some 54), (.eq false .sc (.t 51) (.t 53)), (some (49, true)), 2⟩, ⟨(some 55), (.pick (.t 49) (.t 54) (.c (.bool false))), none, 2⟩, ⟨(some 56), (.mov (.t 55)), none, 2⟩, ⟨(some 57), (.fad 21 (.t 2)), (some (56, true)), 2⟩, ⟨(some 58), (.load none (.t 57)), (some (56, true)), 2⟩, ⟨(some 59), (.fad 21 (.t 3)), (some (56, true)), 2⟩, ⟨(some 60), (.load none (.t 59)), (some (56, true)), 2⟩, ⟨(some 61), (.eq false .sc (.t 58) (.t 60)), (some (56, true)), 2⟩, ⟨(some 62), (.pick (.t 56) (.t 61) (.c (.bool false))), none, 2⟩, ⟨(some 63), (.mov (.t 62)), none, 2⟩, ⟨(some 64), (.fad 22 (.t 2)), (some (63, true)), 2⟩, ⟨(some 65), (.load none (.t 64)), (some (63, true)), 2⟩, ⟨(some 66), (.fad 22 (.t 3)), (some (63, true)), 2⟩, ⟨(some 67), (.load none (.t 66)), (some (63, true)), 2⟩, ⟨(some 68), (.eq false .sc (.t 65) (.t 67)), (some (63, true)), 2⟩, ⟨(some 69), (.pick (.t 63) (.t 68) (.c (.bool false))), none, 2⟩, ⟨(some 4), (.mov (.t 69)), none, 2⟩] [])
 .ret))
theorem o38 : FnOK Try.prog 38 N38 res38 c38 := ⟨_, _, Try.f38.results.toList, [], pures, Try.func38, show _ = some (Try.f38.body.getD .skip) by kernel_rfl, (Array.toArray_toList).symm, by kernel_rfl, by kernel_rfl, by kernel_rfl, by kernel_rfl, follows, callFunc_enter Try.func38 (by kernel_rfl) (by kernel_rfl)⟩
-- sentinel/sentinelref5.ReadRecord
def N39 : Nat := 82
def keep39 : List Nat := [0, 2, 3, 4, 5, 6, 7, 79]
def res39 : List RV := [(.c 2 (some 23)), (.t 3)]
def c39 : CC :=
 (.seq (.reg [⟨(some 2), (.alloc (.agg [(.int 0), (.str []), (.sl true 0 0 (.agg []) true), (.u32 0), (.u32 0), (.u32 0), (.u32 0), (.u32 0), (.u32 0), (.u32 0), (.u32 0), (.u32 0), (.u32 0), (.u32 0), (.u32 0), (.u32 0), (.u32 0), (.u32 0), (.u32 0), (.sl true 0 0 (.agg []) true), (.int 0), (.int 0), (.int 0)])), none, 2⟩, ⟨(some 3), (.mov (.c (.bool false))), none, 2⟩] [])
 (.seq (.reg [⟨(some 8), (.mov (.t 0)), none, 2⟩, ⟨(some 9), (.build [(.sl true 0 0 (.agg []) true), (.bool false)] [(0, (1, (.t 8)))]), none, 2⟩, ⟨(some 10), (.box (.t 9)), none, 2⟩, ⟨(some 4), (.mov (.t 10)), none, 2⟩] [])
 (.seq (.reg [⟨(some 11), (.mov (.t 4)), none, 2⟩, ⟨(some 12), (.call (.c (.fn 69 [])) [(.t 11), (.c (.int 1))]), none, 2⟩, ⟨(some 13), (.call (.c (.fn 68 [])) [(.t 12)]), none, 2⟩, ⟨(some 14), (.build [(.int 0), (.str []), (.sl true 0 0 (.agg []) true), (.u32 0), (.u32 0), (.u32 0), (.u32 0), (.u32 0), (.u32 0), (.u32 0), (.u32 0), (.u32 0), (.u32 0), (.u32 0), (.u32 0), (.u32 0), (.u32 0), (.u32 0), (.u32 0), (.sl true 0 0 (.agg []) true), (.int 0), (.int 0), (.int 0)] [(0, (1, (.t 13)))]), none, 2⟩, ⟨(some 5), (.alloc (.agg [(.int 0), (.str []), (.sl true 0 0 (.agg []) true), (.u32 0), (.u32 0), (.u32 0), (.u32 0), (.u32 0), (.u32 0), (.u32 0), (.u32 0), (.u32 0), (.u32 0), (.u32 0), (.u32 0), (.u32 0), (.u32 0), (.u32 0), (.u32 0), (.sl true 0 0 (.agg []) true), (.int 0), (.int 0), (.int 0)])), none, 2⟩, ⟨none, (.store (some 23) (.t 5) (.t 14)), none, 2⟩] [])
 (.seq (.reg [⟨(some 15), (.mov (.t 4)), none, 2⟩, ⟨(some 16), (.mov (.t 4)), none, 2⟩, ⟨(some 17), (.call (.c (.fn 69 [])) [(.t 16), (.c (.int 1))]), none, 2⟩, ⟨(some 18), (.call (.c (.fn 68 [])) [(.t 17)]), none, 2⟩, ⟨(some 19), (.call (.c (.fn 69 [])) [(.t 15), (.t 18)]), none, 2⟩, ⟨(some 20), (.conv .bstr (.t 19)), none, 2⟩, ⟨(some 21), (.fad 1 (.t 5)), none, 2⟩, ⟨none, (.store none (.t 21) (.t 20)), none, 2⟩] [])
 (.seq (.reg [⟨(some 22), (.mov (.t 4)), none, 2⟩, ⟨(some 23), (.mov (.t 4)), none, 2⟩, ⟨(some 24), (.call (.c (.fn 69 [])) [(.t 23), (.c (.int 1))]), none, 2⟩, ⟨(some 25), (.call (.c (.fn 68 [])) [(.t 24)]), none, 2⟩, ⟨(some 26), (.call (.c (.fn 69 [])) [(.t 22), (.t 25)]), none, 2⟩, ⟨(some 27), (.fad 2 (.t 5)), none, 2⟩, ⟨none, (.store none (.t 27) (.t 26)), none, 2⟩] [])
 (.seq (.reg [⟨(some 28), (.mov (.t 4)), none, 2⟩, ⟨(some 29), (.mov (.t 4)), none, 2⟩, ⟨(some 30), (.call (.c (.fn 69 [])) [(.t 29), (.c (.int 1))]), none, 2⟩, ⟨(some 31), (.call (.c (.fn 68 [])) [(.t 30)]), none, 2⟩, ⟨(some 32), (.call (.c (.fn 69 [])) [(.t 28), (.t 31)]), none, 2⟩, ⟨(some 33), (.fad 19 (.t 5)), none, 2⟩, ⟨none, (.store none (.t 33) (.t 32)), none, 2⟩] [])
 (.seq (.reg [⟨(some 35), (.mov (.t 4)), none, 2⟩, ⟨(some 36), (.call (.c (.fn 69 [])) [(.t 35), (.c (.int 4))]), none, 2⟩, ⟨(some 37), (.call (.c (.fn 70 [])) [(.t 36)]), none, 2⟩, ⟨(some 34), (.mov (.t 37)), none, 2⟩, ⟨(some 38), (.ext (.t 34) 0), none, 2⟩, ⟨(some 39), (.ext (.t 34) 1), none, 2⟩, ⟨(some 40), (.fad 3 (.t 5)), none, 2⟩, ⟨none, (.store (some 8) (.t 40) (.t 38)), none, 2⟩] [])
 (.seq (.reg [⟨(some 42), (.mov (.t 4)), none, 2⟩, ⟨(some 43), (.call (.c (.fn 69 [])) [(.t 42), (.c (.int 4))]), none, 2⟩, ⟨(some 44), (.call (.c (.fn 70 [])) [(.t 43)]), none, 2⟩, ⟨(some 41), (.mov (.t 44)), none, 2⟩, ⟨(some 45), (.ext (.t 41) 0), none, 2⟩, ⟨(some 46), (.ext (.t 41) 1), none, 2⟩, ⟨(some 47), (.fad 11 (.t 5)), none, 2⟩, ⟨none, (.store (some 8) (.t 47) (.t 45)), none, 2⟩] [])
 (.seq (.reg [⟨(some 48), (.mov (.t 4)), none, 2⟩, ⟨(some 49), (.call (.c (.fn 69 [])) [(.t 48), (.c (.int 1))]), none, 2⟩, ⟨(some 50), (.call (.c (.fn 68 [])) [(.t 49)]), none, 2⟩, ⟨(some 51), (.fad 20 (.t 5)), none, 2⟩, ⟨none, (.store none (.t 51) (.t 50)), none, 2⟩] [])
 (.seq (.reg [⟨(some 52), (.mov (.t 4)), none, 2⟩, ⟨(some 53), (.call (.c (.fn 69 [])) [(.t 52), (.c (.int 8))]), none, 2⟩, ⟨(some 54), (.call (.c (.fn 68 [])) [(.t 53)]), none, 2⟩, ⟨(some 55), (.fad 21 (.t 5)), none, 2⟩, ⟨none, (.store none (.t 55) (.t 54)), none, 2⟩] [])
 (.seq (.reg [⟨(some 56), (.mov (.t 4)), none, 2⟩, ⟨(some 57), (.call (.c (.fn 69 [])) [(.t 56), (.c (.int 8))]), none, 2⟩, ⟨(some 58), (.call (.c (.fn 68 [])) [(.t 57)]), none, 2⟩, ⟨(some 59), (.fad 22 (.t 5)), none, 2⟩, ⟨none, (.store none (.t 59) (.t 58)), none, 2⟩] [])
 (.seq (.reg [⟨(some 61), (.load (some 23) (.t 5)), none, 2⟩, ⟨(some 62), (.call (.c (.fn 36 [])) [(.t 61)]), none, 2⟩, ⟨(some 60), (.mov (.t 62)), none, 2⟩, ⟨(some 63), (.ext (.t 60) 0), none, 2⟩, ⟨(some 64), (.ext (.t 60) 1), none, 2⟩, ⟨(some 6), (.mov (.t 63)), none, 2⟩, ⟨(some 7), (.mov (.t 64)), none, 2⟩] [])
 (.seq (.seq (.reg [⟨(some 65), (.mov (.t 4)), none, 2⟩, ⟨(some 66), (.nilck (.t 65)), none, 2⟩, ⟨(some 67), (.fad 1 (.t 66)), none, 2⟩, ⟨(some 68), (.load none (.t 67)), none, 2⟩, ⟨(some 69), (.mov (.t 68)), none, 2⟩, ⟨(some 70), (.mov (.t 7)), (some (69, false)), 2⟩, ⟨(some 71), (.un .not (.t 70)), (some (69, false)), 2⟩, ⟨(some 72), (.pick (.t 69) (.c (.bool true)) (.t 71)), none, 2⟩, ⟨(some 73), (.mov (.t 72)), none, 2⟩, ⟨(some 74), (.mov (.t 6)), (some (73, false)), 2⟩, ⟨(some 75), (.conv .bstr (.t 74)), (some (73, false)), 2⟩, ⟨(some 76), (.mov (.t 0)), (some (73, false)), 2⟩, ⟨(some 77), (.conv .bstr (.t 76)), (some (73, false)), 2⟩, ⟨(some 78), (.eq true .sc (.t 75) (.t 77)), (some (73, false)), 2⟩, ⟨(some 79), (.pick (.t 73) (.c (.bool true)) (.t 78)), none, 2⟩] [])
 (.cond (.t 79)
 (.seq (.reg [⟨(some 80), (.build [(.int 0), (.str []), (.sl true 0 0 (.agg []) true), (.u32 0), (.u32 0), (.u32 0), (.u32 0), (.u32 0), (.u32 0), (.u32 0), (.u32 0), (.u32 0), (.u32 0), (.u32 0), (.u32 0), (.u32 0), (.u32 0), (.u32 0), (.u32 0), (.sl true 0 0 (.agg []) true), (.int 0), (.int 0), (.int 0)] []), none, 2⟩, ⟨none, (.store (some 23) (.t 2) (.t 80)), none, 2⟩, ⟨(some 3), (.mov (.c (.bool false))), none, 2⟩] [])
 .ret)
 .skip))
 (.seq (.reg [⟨(some 81), (.load (some 23) (.t 5)), none, 2⟩, ⟨none, (.store (some 23) (.t 2) (.t 81)), none, 2⟩, ⟨(some 3), (.mov (.c (.bool true))), none, 2⟩] [])
 .ret))))))))))))))
theorem o39 : FnOK Try.prog 39 N39 res39 c39 := ⟨_, _, Try.f39.results.toList, [], pures, Try.func39, show _ = some (Try.f39.body.getD .skip) by kernel_rfl, (Array.toArray_toList).symm, by kernel_rfl, by kernel_rfl, by kernel_rfl, by kernel_rfl, follows, callFunc_enter Try.func39 (by kernel_rfl) (by kernel_rfl)⟩
-- sentinel/sentinelref1.Bits
def N41 : Nat := 14
def keep41 : List Nat := [0, 1, 2, 3, 5, 11]
def res41 : List RV := [(.t 2)]
def c41 : CC :=
 (.seq (.reg [⟨(some 1), (.box (.t 0)), none, 2⟩, ⟨(some 2), (.mov (.c (.int 0))), none, 2⟩] [])
 (.seq (.seq (.reg [⟨(some 3), (.mov (.c (.int 255))), none, 2⟩] [])
 (.block 0 (.loop (.seq (.seq (.reg [⟨(some 4), (.mov (.t 3)), none, 2⟩, ⟨(some 5), (.bin .geq (.t 4) (.c (.int 0))), none, 2⟩] [])
 (.cond (.t 5)
 .skip
 (.exit 0)))
 (.seq (.block 1 (.seq (.reg [⟨(some 8), (.load (some 8) (.t 1)), none, 2⟩, ⟨(some 9), (.mov (.t 3)), none, 2⟩, ⟨(some 10), (.call (.c (.fn 72 [])) [(.t 8), (.t 9)]), none, 2⟩, ⟨(some 11), (.bin .gtr (.t 10) (.c (.u32 0))), none, 2⟩] [])
 (.cond (.t 11)
 (.seq (.reg [⟨(some 12), (.mov (.t 3)), none, 2⟩, ⟨(some 13), (.bin .add (.t 12) (.c (.int 1))), none, 2⟩, ⟨(some 2), (.mov (.t 13)), none, 2⟩] [])
 .ret)
 .skip)))
 (.reg [⟨(some 6), (.mov (.t 3)), none, 2⟩, ⟨(some 7), (.bin .sub (.t 6) (.c (.int 1))), none, 2⟩, ⟨(some 3), (.mov (.t 7)), none, 2⟩] []))))))
 (.seq (.reg [⟨(some 2), (.mov (.c (.int 0))), none, 2⟩] [])
 .ret)))
theorem o41 : FnOK Try.prog 41 N41 res41 c41 := ⟨_, _, Try.f41.results.toList, [], pures, Try.func41, show _ = some (Try.f41.body.getD .skip) by kernel_rfl, (Array.toArray_toList).symm, by kernel_rfl, by kernel_rfl, by kernel_rfl, by kernel_rfl, follows, callFunc_enter Try.func41 (by kernel_rfl) (by kernel_rfl)⟩
-- sentinel/sentinellaw5.Name
def N42 : Nat := 33
def keep42 : List Nat := [0, 2, 3, 4, 10, 26]
def res42 : List RV := [(.t 2)]
def c42 : CC :=
 (.seq (.reg [⟨(some 2), (.mov (.c (.str []))), none, 2⟩] [])
 (.seq (.reg [⟨(some 5), (.mov (.t 0)), none, 2⟩, ⟨(some 6), (.conv (.strb true) (.t 5)), none, 2⟩, ⟨(some 3), (.mov (.t 6)), none, 2⟩] [])
 (.seq (.seq (.reg [⟨(some 4), (.mov (.c (.int 0))), none, 2⟩] [])
 (.block 0 (.loop (.seq (.seq (.reg [⟨(some 7), (.mov (.t 4)), none, 2⟩, ⟨(some 8), (.mov (.t 3)), none, 2⟩, ⟨(some 9), (.len false (.t 8)), none, 2⟩, ⟨(some 10), (.bin .lss (.t 7) (.t 9)), none, 2⟩] [])
 (.cond (.t 10)
 .skip
 (.exit 0)))
 (.seq (.block 1 (.reg [⟨(some 13), (.mov (.t 3)), none, 2⟩, ⟨(some 14), (.mov (.t 4)), none, 2⟩, ⟨(some 15), (.mov (.t 3)), none, 2⟩, ⟨(some 16), (.mov (.t 4)), none, 2⟩, ⟨(some 17), (.iadS 1 (.t 15) (.t 16)), none, 2⟩, ⟨(some 18), (.load none (.t 17)), none, 2⟩, ⟨(some 19), (.conv .u8i (.t 18)), none, 2⟩, ⟨(some 20), (.call (.c (.fn 22 [])) [(.t 19), (.c (.int 94))]), none, 2⟩, ⟨(some 21), (.bin .add (.c (.int 33)) (.t 20)), none, 2⟩, ⟨(some 22), (.conv .iu8 (.t 21)), none, 2⟩, ⟨(some 23), (.iadS 1 (.t 13) (.t 14)), none, 2⟩, ⟨none, (.store none (.t 23) (.t 22)), none, 2⟩] []))
 (.reg [⟨(some 11), (.mov (.t 4)), none, 2⟩, ⟨(some 12), (.bin .add (.t 11) (.c (.int 1))), none, 2⟩, ⟨(some 4), (.mov (.t 12)), none, 2⟩] []))))))
 (.seq (.seq (.reg [⟨(some 24), (.mov (.t 3)), none, 2⟩, ⟨(some 25), (.len false (.t 24)), none, 2⟩, ⟨(some 26), (.eq false .sc (.t 25) (.c (.int 0))), none, 2⟩] [])
 (.cond (.t 26)
 (.seq (.reg [⟨(some 2), (.mov (.c (.str [117]))), none, 2⟩] [])
 .ret)
 .skip))
 (.seq (.reg [⟨(some 27), (.mov (.t 3)), none, 2⟩, ⟨(some 28), (.mov (.t 3)), none, 2⟩, ⟨(some 29), (.len false (.t 28)), none, 2⟩, ⟨(some 30), (.mn (.t 29) (.c (.int 16))), none, 2⟩, ⟨(some 31), (.slcS 1 (.t 27) none (some (.t 30)) none), none, 2⟩, ⟨(some 32), (.conv .bstr (.t 31)), none, 2⟩, ⟨(some 2), (.mov (.t 32)), none, 2⟩] [])
 .ret)))))
theorem o42 : FnOK Try.prog 42 N42 res42 c42 := ⟨_, _, Try.f42.results.toList, [6], pures, Try.func42, show _ = some (Try.f42.body.getD .skip) by kernel_rfl, (Array.toArray_toList).symm, by kernel_rfl, by kernel_rfl, by kernel_rfl, by kernel_rfl, follows, callFunc_enter Try.func42 (by kernel_rfl) (by kernel_rfl)⟩
-- sentinel/sentinellaw5.some
def N43 : Nat := 41
def keep43 : List Nat := [0, 1, 2, 6, 7, 8, 9, 18, 32]
def res43 : List RV := [(.t 6)]
def c43 : CC :=
 (.seq (.reg [⟨(some 6), (.mov (.c (.sl true 0 0 (.agg []) true))), none, 2⟩] [])
 (.seq (.reg [⟨(some 10), (.mov (.t 1)), none, 2⟩, ⟨(some 11), (.mov (.t 2)), none, 2⟩, ⟨(some 12), (.call (.c (.fn 22 [])) [(.t 10), (.t 11)]), none, 2⟩, ⟨(some 13), (.bin .add (.c (.int 1)) (.t 12)), none, 2⟩, ⟨(some 7), (.mov (.t 13)), none, 2⟩] [])
 (.seq (.reg [⟨(some 14), (.mov (.t 7)), none, 2⟩, ⟨(some 15), (.mksl .u8 1 1 [(.u8 0)] (.t 14) (.t 14)), none, 2⟩, ⟨(some 8), (.mov (.t 15)), none, 2⟩] [])
 (.seq (.seq (.reg [⟨(some 9), (.mov (.c (.int 0))), none, 2⟩] [])
 (.block 0 (.loop (.seq (.seq (.reg [⟨(some 16), (.mov (.t 9)), none, 2⟩, ⟨(some 17), (.mov (.t 7)), none, 2⟩, ⟨(some 18), (.bin .lss (.t 16) (.t 17)), none, 2⟩] [])
 (.cond (.t 18)
 .skip
 (.exit 0)))
 (.seq (.block 1 (.seq (.reg [⟨(some 21), (.mov (.t 8)), none, 2⟩, ⟨(some 22), (.mov (.t 9)), none, 2⟩, ⟨(some 23), (.mov (.t 1)), none, 2⟩, ⟨(some 24), (.mov (.t 9)), none, 2⟩, ⟨(some 25), (.bin .mul (.t 24) (.c (.int 7))), none, 2⟩, ⟨(some 26), (.bin .add (.t 23) (.t 25)), none, 2⟩, ⟨(some 27), (.conv .iu8 (.t 26)), none, 2⟩, ⟨(some 28), (.iadS 1 (.t 21) (.t 22)), none, 2⟩, ⟨none, (.store none (.t 28) (.t 27)), none, 2⟩] [])
 (.seq (.reg [⟨(some 29), (.mov (.t 9)), none, 2⟩, ⟨(some 30), (.mov (.t 0)), none, 2⟩, ⟨(some 31), (.len false (.t 30)), none, 2⟩, ⟨(some 32), (.bin .lss (.t 29) (.t 31)), none, 2⟩] [])
 (.cond (.t 32)
 (.reg [⟨(some 33), (.mov (.t 8)), none, 2⟩, ⟨(some 34), (.mov (.t 9)), none, 2⟩, ⟨(some 35), (.mov (.t 0)), none, 2⟩, ⟨(some 36), (.mov (.t 9)), none, 2⟩, ⟨(some 37), (.iadS 1 (.t 35) (.t 36)), none, 2⟩, ⟨(some 38), (.load none (.t 37)), none, 2⟩, ⟨(some 39), (.iadS 1 (.t 33) (.t 34)), none, 2⟩, ⟨none, (.store none (.t 39) (.t 38)), none, 2⟩] [])
 .skip))))
 (.reg [⟨(some 19), (.mov (.t 9)), none, 2⟩, ⟨(some 20), (.bin .add (.t 19) (.c (.int 1))), none, 2⟩, ⟨(some 9), (.mov (.t 20)), none, 2⟩] []))))))
 (.seq (.reg [⟨(some 40), (.mov (.t 8)), none, 2⟩, ⟨(some 6), (.mov (.t 40)), none, 2⟩] [])
 .ret)))))
theorem o43 : FnOK Try.prog 43 N43 res43 c43 := ⟨_, _, Try.f43.results.toList, [], pures, Try.func43, show _ = some (Try.f43.body.getD .skip) by kernel_rfl, (Array.toArray_toList).symm, by kernel_rfl, by kernel_rfl, by kernel_rfl, by kernel_rfl, follows, callFunc_enter Try.func43 (by kernel_rfl) (by kernel_rfl)⟩
-- sentinel/wire.fields
def N44 : Nat := 73
def keep44 : List Nat := [0, 1, 2, 3]
def res44 : List RV := [(.t 2)]
def c44 : CC :=
 (.seq (.reg [⟨(some 1), (.box (.t 0)), none, 2⟩, ⟨(some 2), (.mov (.c .nilf)), none, 2⟩] [])
 (.seq (.reg [⟨(some 4), (.fad 1 (.t 1)), none, 0⟩, ⟨(some 5), (.load none (.t 4)), none, 1⟩, ⟨(some 6), (.call (.c (.fn 73 [])) [(.t 5), (.c (.int 1))]), none, 0⟩, ⟨(some 7), (.fad 1 (.t 1)), none, 0⟩, ⟨(some 8), (.load none (.t 7)), none, 1⟩, ⟨(some 9), (.bin .geq (.t 8) (.c (.int 0))), none, 0⟩, ⟨(some 10), (.mov (.t 9)), none, 0⟩, ⟨(some 11), (.fad 1 (.t 1)), (some (10, true)), 0⟩, ⟨(some 12), (.load none (.t 11)), (some (10, true)), 1⟩, ⟨(some 13), (.bin .leq (.t 12) (.c (.int 2))), (some (10, true)), 0⟩, ⟨(some 14), (.pick (.t 10) (.t 13) (.c (.bool false))), none, 0⟩, ⟨(some 15), (.build [(.int 0), (.sl true 0 0 (.agg []) true), (.bool false)] [(0, (1, (.c (.int 1)))), (1, (1, (.t 6))), (2, (1, (.t 14)))]), none, 0⟩, ⟨(some 16), (.fad 4 (.t 1)), none, 0⟩, ⟨(some 17), (.load none (.t 16)), none, 1⟩, ⟨(some 18), (.call (.c (.fn 74 [])) [(.c (.int 2)), (.t 17), (.c (.int 16))]), none, 0⟩, ⟨(some 19), (.fad 5 (.t 1)), none, 0⟩, ⟨(some 20), (.load (some 8) (.t 19)), none, 1⟩, ⟨(some 21), (.call (.c (.fn 75 [])) [(.c (.int 3)), (.t 20)]), none, 0⟩, ⟨(some 22), (.fad 13 (.t 1)), none, 0⟩, ⟨(some 23), (.load (some 8) (.t 22)), none, 1⟩, ⟨(some 24), (.call (.c (.fn 75 [])) [(.c (.int 4)), (.t 23)]), none, 0⟩, ⟨(some 25), (.fad 21 (.t 1)), none, 0⟩, ⟨(some 26), (.load none (.t 25)), none, 1⟩, ⟨(some 27), (.call (.c (.fn 76 [])) [(.c (.int 5)), (.t 26), (.c (.int 16))]), none, 0⟩, ⟨(some 28), (.fad 22 (.t 1)), none, 0⟩, ⟨(some 29), (.load none (.t 28)), none, 1⟩, ⟨(some 30), (.call (.c (.fn 76 [])) [(.c (.int 6)), (.t 29), (.c (.int 48))]), none, 0⟩, ⟨(some 31), (.fad 23 (.t 1)), none, 0⟩, ⟨(some 32), (.load none (.t 31)), none, 1⟩, ⟨(some 33), (.call (.c (.fn 76 [])) [(.c (.int 7)), (.t 32), (.c (.int 16))]), none, 0⟩, ⟨(some 34), (.fad 24 (.t 1)), none, 0⟩, ⟨(some 35), (.load none (.t 34)), none, 1⟩, ⟨(some 36), (.call (.c (.fn 76 [])) [(.c (.int 8)), (.t 35), (.c (.int 80))]), none, 0⟩, ⟨(some 37), (.fad 25 (.t 1)), none, 0⟩, ⟨(some 38), (.load none (.t 37)), none, 1⟩, ⟨(some 39), (.call (.c (.fn 76 [])) [(.c (.int 9)), (.t 38), (.c (.int 120))]), none, 0⟩, ⟨(some 40), (.fad 2 (.t 1)), none, 0⟩, ⟨(some 41), (.load none (.t 40)), none, 1⟩, ⟨(some 42), (.call (.c (.fn 73 [])) [(.t 41), (.c (.int 8))]), none, 0⟩, ⟨(some 43), (.fad 2 (.t 1)), none, 0⟩, ⟨(some 44), (.load none (.t 43)), none, 1⟩, ⟨(some 45), (.bin .geq (.t 44) (.c (.int 0))), none, 0⟩, ⟨(some 46), (.build [(.int 0), (.sl true 0 0 (.agg []) true), (.bool false)] [(0, (1, (.c (.int 10)))), (1, (1, (.t 42))), (2, (1, (.t 45)))]), none, 0⟩, ⟨(some 47), (.fad 3 (.t 1)), none, 0⟩, ⟨(some 48), (.load none (.t 47)), none, 1⟩, ⟨(some 49), (.call (.c (.fn 73 [])) [(.t 48), (.c (.int 1))]), none, 0⟩, ⟨(some 50), (.fad 3 (.t 1)), none, 0⟩, ⟨(some 51), (.load none (.t 50)), none, 1⟩, ⟨(some 52), (.bin .geq (.t 51) (.c (.int 0))), none, 0⟩, ⟨(some 53), (.mov (.t 52)), none, 0⟩, ⟨(some 54), (.fad 3 (.t 1)), (some (53, true)), 0⟩, ⟨(some 55), (.load none (.t 54)), (some (53, true)), 1⟩, ⟨(some 56), (.bin .leq (.t 55) (.c (.int 11))), (some (53, true)), 0⟩, ⟨(some 57), (.pick (.t 53) (.t 56) (.c (.bool false))), none, 0⟩, ⟨(some 58), (.build [(.int 0), (.sl true 0 0 (.agg []) true), (.bool false)] [(0, (1, (.c (.int 11)))), (1, (1, (.t 49))), (2, (1, (.t 57)))]), none, 0⟩, ⟨(some 59), (.bsl true .other 3 11 [(.int 0), (.sl true 0 0 (.agg []) true), (.bool false)] [(0, (3, (.t 15))), (3, (3, (.t 18))), (6, (3, (.t 21))), (9, (3, (.t 24))), (12, (3, (.t 27))), (15, (3, (.t 30))), (18, (3, (.t 33))), (21, (3, (.t 36))), (24, (3, (.t 39))), (27, (3, (.t 46))), (30, (3, (.t 58)))]), none, 2⟩, ⟨(some 3), (.mov (.t 59)), none, 0⟩] [])
 (.seq (.reg [⟨(some 60), (.mov (.t 3)), none, 2⟩, ⟨(some 61), (.fad 4 (.t 1)), none, 2⟩, ⟨(some 62), (.load none (.t 61)), none, 2⟩, ⟨(some 63), (.eq false .sc (.t 62) (.c (.str []))), none, 2⟩, ⟨(some 64), (.mov (.t 63)), none, 2⟩, ⟨(some 65), (.fad 4 (.t 1)), (some (64, false)), 2⟩, ⟨(some 66), (.load none (.t 65)), (some (64, false)), 2⟩, ⟨(some 67), (.call (.c (.fn 60 [])) [(.t 66)]), (some (64, false)), 2⟩, ⟨(some 68), (.pick (.t 64) (.c (.bool true)) (.t 67)), none, 2⟩, ⟨(some 69), (.iadS 3 (.t 60) (.c (.int 1))), none, 2⟩, ⟨(some 70), (.fad 2 (.t 69)), none, 2⟩, ⟨none, (.store none (.t 70) (.t 68)), none, 2⟩] [])
 (.seq (.reg [⟨(some 71), (.mov (.t 3)), none, 2⟩, ⟨(some 72), (.call (.c (.fn 77 [])) [(.t 71)]), none, 2⟩, ⟨(some 2), (.mov (.t 72)), none, 2⟩] [])
 .ret))))
theorem o44 : FnOK Try.prog 44 N44 res44 c44 := ⟨_, _, Try.f44.results.toList, [59], pures, Try.func44, show _ = some (Try.f44.body.getD .skip) by kernel_rfl, (Array.toArray_toList).symm, by kernel_rfl, by kernel_rfl, by kernel_rfl, by kernel_rfl, follows, callFunc_enter Try.func44 (by kernel_rfl) (by kernel_rfl)⟩
-- slices.Concat[[]byte,byte]
def N45 : Nat := 36
def keep45 : List Nat := [0, 2, 3, 5, 6, 8, 9, 10, 11, 12, 20, 25, 26, 27, 28]
def res45 : List RV := [(.t 2)]
def c45 : CC :=
 (.seq (.reg [⟨(some 2), (.mov (.c (.sl true 0 0 (.agg []) true))), none, 2⟩] [])
 (.seq (.reg [⟨(some 3), (.mov (.c (.int 0))), none, 2⟩] [])
 (.seq (.seq (.reg [⟨(some 9), (.mov (.t 0)), none, 2⟩, ⟨(some 10), (.len false (.t 9)), none, 2⟩, ⟨(some 11), (.mov (.c (.int 0))), none, 2⟩] [])
 (.block 0 (.loop (.seq (.reg [⟨(some 12), (.bin .lss (.t 11) (.t 10)), none, 2⟩] [])
 (.seq (.cond (.t 12)
 .skip
 (.exit 0))
 (.seq (.block 1 (.seq (.reg [⟨(some 13), (.iadS 1 (.t 9) (.t 11)), none, 2⟩, ⟨(some 14), (.load none (.t 13)), none, 2⟩, ⟨(some 5), (.mov (.t 14)), none, 2⟩] [])
 (.seq (.reg [⟨(some 15), (.mov (.t 3)), none, 2⟩, ⟨(some 16), (.mov (.t 5)), none, 2⟩, ⟨(some 17), (.len false (.t 16)), none, 2⟩, ⟨(some 18), (.bin .add (.t 15) (.t 17)), none, 2⟩, ⟨(some 3), (.mov (.t 18)), none, 2⟩] [])
 (.seq (.reg [⟨(some 19), (.mov (.t 3)), none, 2⟩, ⟨(some 20), (.bin .lss (.t 19) (.c (.int 0))), none, 2⟩] [])
 (.cond (.t 20)
 (.reg [⟨(some 21), (.mki 9 (.c (.str [108, 101, 110, 32, 111, 117, 116, 32, 111, 102, 32, 114, 97, 110, 103, 101]))), none, 2⟩, ⟨none, .bad, none, 2⟩] [])
 .skip)))))
 (.reg [⟨(some 22), (.bin .add (.t 11) (.c (.int 1))), none, 2⟩, ⟨(some 11), (.mov (.t 22)), none, 2⟩] [])))))))
 (.seq (.reg [⟨(some 23), (.mov (.t 3)), none, 2⟩, ⟨(some 24), (.call (.c (.fn 78 [])) [(.c (.sl true 0 0 (.agg []) true)), (.t 23)]), none, 2⟩, ⟨(some 6), (.mov (.t 24)), none, 2⟩] [])
 (.seq (.seq (.reg [⟨(some 25), (.mov (.t 0)), none, 2⟩, ⟨(some 26), (.len false (.t 25)), none, 2⟩, ⟨(some 27), (.mov (.c (.int 0))), none, 2⟩] [])
 (.block 2 (.loop (.seq (.reg [⟨(some 28), (.bin .lss (.t 27) (.t 26)), none, 2⟩] [])
 (.seq (.cond (.t 28)
 .skip
 (.exit 2))
 (.seq (.block 3 (.seq (.reg [⟨(some 29), (.iadS 1 (.t 25) (.t 27)), none, 2⟩, ⟨(some 30), (.load none (.t 29)), none, 2⟩, ⟨(some 8), (.mov (.t 30)), none, 2⟩] [])
 (.reg [⟨(some 31), (.mov (.t 6)), none, 2⟩, ⟨(some 32), (.mov (.t 8)), none, 2⟩, ⟨(some 33), (.app true 1 1 (.t 31) (.t 32)), none, 2⟩, ⟨(some 6), (.mov (.t 33)), none, 2⟩] [])))
 (.reg [⟨(some 34), (.bin .add (.t 27) (.c (.int 1))), none, 2⟩, ⟨(some 27), (.mov (.t 34)), none, 2⟩] [])))))))
 (.seq (.reg [⟨(some 35), (.mov (.t 6)), none, 2⟩, ⟨(some 2), (.mov (.t 35)), none, 2⟩] [])
 .ret))))))
theorem o45 : FnOK Try.prog 45 N45 res45 c45 := ⟨_, _, Try.f45.results.toList, [], pures, Try.func45, show _ = some (Try.f45.body.getD .skip) by kernel_rfl, (Array.toArray_toList).symm, by kernel_rfl, by kernel_rfl, by kernel_rfl, by kernel_rfl, follows, callFunc_enter Try.func45 (by kernel_rfl) (by kernel_rfl)⟩
-- sentinel/sentinelref5.there
def N46 : Nat := 63
def keep46 : List Nat := [0, 1, 2, 3, 4, 5, 50, 56]
def res46 : List RV := [(.t 2)]
def c46 : CC :=
 (.seq (.reg [⟨(some 1), (.box (.t 0)), none, 2⟩, ⟨(some 2), (.mov (.c (.int 0))), none, 2⟩] [])
 (.seq (.reg [⟨(some 6), (.fad 1 (.t 1)), none, 0⟩, ⟨(some 7), (.load none (.t 6)), none, 1⟩, ⟨(some 8), (.eq true .sc (.t 7) (.c (.int 0))), none, 0⟩, ⟨(some 9), (.fad 4 (.t 1)), none, 0⟩, ⟨(some 10), (.load none (.t 9)), none, 1⟩, ⟨(some 11), (.eq true .sc (.t 10) (.c (.str []))), none, 0⟩, ⟨(some 12), (.fad 5 (.t 1)), none, 0⟩, ⟨(some 13), (.load (some 8) (.t 12)), none, 1⟩, ⟨(some 14), (.build [(.u32 0), (.u32 0), (.u32 0), (.u32 0), (.u32 0), (.u32 0), (.u32 0), (.u32 0)] []), none, 0⟩, ⟨(some 15), (.eq true (.arr 8) (.t 13) (.t 14)), none, 0⟩, ⟨(some 16), (.fad 13 (.t 1)), none, 0⟩, ⟨(some 17), (.load (some 8) (.t 16)), none, 1⟩, ⟨(some 18), (.build [(.u32 0), (.u32 0), (.u32 0), (.u32 0), (.u32 0), (.u32 0), (.u32 0), (.u32 0)] []), none, 0⟩, ⟨(some 19), (.eq true (.arr 8) (.t 17) (.t 18)), none, 0⟩, ⟨(some 20), (.fad 21 (.t 1)), none, 0⟩, ⟨(some 21), (.load none (.t 20)), none, 1⟩, ⟨(some 22), (.len false (.t 21)), none, 0⟩, ⟨(some 23), (.bin .gtr (.t 22) (.c (.int 0))), none, 0⟩, ⟨(some 24), (.fad 22 (.t 1)), none, 0⟩, ⟨(some 25), (.load none (.t 24)), none, 1⟩, ⟨(some 26), (.len false (.t 25)), none, 0⟩, ⟨(some 27), (.bin .gtr (.t 26) (.c (.int 0))), none, 0⟩, ⟨(some 28), (.fad 23 (.t 1)), none, 0⟩, ⟨(some 29), (.load none (.t 28)), none, 1⟩, ⟨(some 30), (.len false (.t 29)), none, 0⟩, ⟨(some 31), (.bin .gtr (.t 30) (.c (.int 0))), none, 0⟩, ⟨(some 32), (.fad 24 (.t 1)), none, 0⟩, ⟨(some 33), (.load none (.t 32)), none, 1⟩, ⟨(some 34), (.len false (.t 33)), none, 0⟩, ⟨(some 35), (.bin .gtr (.t 34) (.c (.int 0))), none, 0⟩, ⟨(some 36), (.fad 25 (.t 1)), none, 0⟩, ⟨(some 37), (.load none (.t 36)), none, 1⟩, ⟨(some 38), (.len false (.t 37)), none, 0⟩, ⟨(some 39), (.bin .gtr (.t 38) (.c (.int 0))), none, 0⟩, ⟨(some 40), (.fad 2 (.t 1)), none, 0⟩, ⟨(some 41), (.load none (.t 40)), none, 1⟩, ⟨(some 42), (.eq true .sc (.t 41) (.c (.int 0))), none, 0⟩, ⟨(some 43), (.fad 3 (.t 1)), none, 0⟩, ⟨(some 44), (.load none (.t 43)), none, 1⟩, ⟨(some 45), (.eq true .sc (.t 44) (.c (.int 0))), none, 0⟩, ⟨(some 46), (.bsl false .other 1 12 [(.bool false)] [(0, (1, (.c (.bool false)))), (1, (1, (.t 8))), (2, (1, (.t 11))), (3, (1, (.t 15))), (4, (1, (.t 19))), (5, (1, (.t 23))), (6, (1, (.t 27))), (7, (1, (.t 31))), (8, (1, (.t 35))), (9, (1, (.t 39))), (10, (1, (.t 42))), (11, (1, (.t 45)))]), none, 0⟩, ⟨(some 3), (.mov (.t 46)), none, 0⟩] [])
 (.seq (.reg [⟨(some 4), (.mov (.c (.int 0))), none, 2⟩] [])
 (.seq (.seq (.reg [⟨(some 5), (.mov (.c (.int 0))), none, 2⟩] [])
 (.block 0 (.loop (.seq (.seq (.reg [⟨(some 47), (.mov (.t 5)), none, 2⟩, ⟨(some 48), (.mov (.t 3)), none, 2⟩, ⟨(some 49), (.len false (.t 48)), none, 2⟩, ⟨(some 50), (.bin .lss (.t 47) (.t 49)), none, 2⟩] [])
 (.cond (.t 50)
 .skip
 (.exit 0)))
 (.seq (.block 1 (.seq (.reg [⟨(some 53), (.mov (.t 3)), none, 2⟩, ⟨(some 54), (.mov (.t 5)), none, 2⟩, ⟨(some 55), (.iadS 1 (.t 53) (.t 54)), none, 2⟩, ⟨(some 56), (.load none (.t 55)), none, 2⟩] [])
 (.cond (.t 56)
 (.reg [⟨(some 57), (.mov (.t 4)), none, 2⟩, ⟨(some 58), (.mov (.t 5)), none, 2⟩, ⟨(some 59), (.conv .iu64 (.t 58)), none, 2⟩, ⟨(some 60), (.bin .shl (.c (.int 1)) (.t 59)), none, 2⟩, ⟨(some 61), (.bin .or (.t 57) (.t 60)), none, 2⟩, ⟨(some 4), (.mov (.t 61)), none, 2⟩] [])
 .skip)))
 (.reg [⟨(some 51), (.mov (.t 5)), none, 2⟩, ⟨(some 52), (.bin .add (.t 51) (.c (.int 1))), none, 2⟩, ⟨(some 5), (.mov (.t 52)), none, 2⟩] []))))))
 (.seq (.reg [⟨(some 62), (.mov (.t 4)), none, 2⟩, ⟨(some 2), (.mov (.t 62)), none, 2⟩] [])
 .ret)))))
theorem o46 : FnOK Try.prog 46 N46 res46 c46 := ⟨_, _, Try.f46.results.toList, [], pures, Try.func46, show _ = some (Try.f46.body.getD .skip) by kernel_rfl, (Array.toArray_toList).symm, by kernel_rfl, by kernel_rfl, by kernel_rfl, by kernel_rfl, follows, callFunc_enter Try.func46 (by kernel_rfl) (by kernel_rfl)⟩
-- sentinel/sentinelref5.field
def N47 : Nat := 17
def keep47 : List Nat := [0, 1, 2, 6]
def res47 : List RV := [(.t 6)]
def c47 : CC :=
 (.seq (.reg [⟨(some 6), (.mov (.c (.sl true 0 0 (.agg []) true))), none, 2⟩] [])
 (.seq (.reg [⟨(some 7), (.mov (.t 0)), none, 2⟩, ⟨(some 8), (.mov (.t 1)), none, 2⟩, ⟨(some 9), (.conv .iu8 (.t 8)), none, 2⟩, ⟨(some 10), (.mov (.t 2)), none, 2⟩, ⟨(some 11), (.len false (.t 10)), none, 2⟩, ⟨(some 12), (.conv .iu8 (.t 11)), none, 2⟩, ⟨(some 13), (.bsl false .u8 1 2 [(.u8 0)] [(0, (1, (.t 9))), (1, (1, (.t 12)))]), none, 2⟩, ⟨(some 14), (.app true 1 1 (.t 7) (.t 13)), none, 2⟩, ⟨(some 15), (.mov (.t 2)), none, 2⟩, ⟨(some 16), (.app true 1 1 (.t 14) (.t 15)), none, 2⟩, ⟨(some 6), (.mov (.t 16)), none, 2⟩] [])
 .ret))
theorem o47 : FnOK Try.prog 47 N47 res47 c47 := ⟨_, _, Try.f47.results.toList, [], pures, Try.func47, show _ = some (Try.f47.body.getD .skip) by kernel_rfl, (Array.toArray_toList).symm, by kernel_rfl, by kernel_rfl, by kernel_rfl, by kernel_rfl, follows, callFunc_enter Try.func47 (by kernel_rfl) (by kernel_rfl)⟩
-- sentinel/sentinelref5.bytes
def N48 : Nat := 56
def keep48 : List Nat := [0, 1, 2, 4, 5, 6, 12, 17, 22, 27, 31, 35, 39, 43, 47]
def res48 : List RV := [(.t 4)]
def c48 : CC :=
 (.seq (.reg [⟨(some 2), (.box (.t 0)), none, 2⟩, ⟨(some 4), (.mov (.c (.sl true 0 0 (.agg []) true))), none, 2⟩] [])
 (.seq (.seq (.reg [⟨(some 5), (.mov (.t 1)), none, 2⟩] [])
 (.block 0 (.seq (.reg [⟨(some 7), (.eq false .sc (.t 5) (.c (.int 1))), none, 2⟩, ⟨(some 6), (.mov (.t 7)), none, 2⟩] [])
 (.cond (.t 6)
 (.seq (.reg [⟨(some 8), (.fad 1 (.t 2)), none, 2⟩, ⟨(some 9), (.load none (.t 8)), none, 2⟩, ⟨(some 10), (.conv .iu8 (.t 9)), none, 2⟩, ⟨(some 11), (.bsl false .u8 1 1 [(.u8 0)] [(0, (1, (.t 10)))]), none, 2⟩, ⟨(some 4), (.mov (.t 11)), none, 2⟩] [])
 .ret)
 (.seq (.reg [⟨(some 13), (.eq false .sc (.t 5) (.c (.int 2))), none, 2⟩, ⟨(some 12), (.mov (.t 13)), none, 2⟩] [])
 (.cond (.t 12)
 (.seq (.reg [⟨(some 14), (.fad 4 (.t 2)), none, 2⟩, ⟨(some 15), (.load none (.t 14)), none, 2⟩, ⟨(some 16), (.conv (.strb false) (.t 15)), none, 2⟩, ⟨(some 4), (.mov (.t 16)), none, 2⟩] [])
 .ret)
 (.seq (.reg [⟨(some 18), (.eq false .sc (.t 5) (.c (.int 3))), none, 2⟩, ⟨(some 17), (.mov (.t 18)), none, 2⟩] [])
 (.cond (.t 17)
 (.seq (.reg [⟨(some 19), (.fad 5 (.t 2)), none, 2⟩, ⟨(some 20), (.load (some 8) (.t 19)), none, 2⟩, ⟨(some 21), (.call (.c (.fn 65 [])) [(.t 20)]), none, 2⟩, ⟨(some 4), (.mov (.t 21)), none, 2⟩] [])
 .ret)
 (.seq (.reg [⟨(some 23), (.eq false .sc (.t 5) (.c (.int 4))), none, 2⟩, ⟨(some 22), (.mov (.t 23)), none, 2⟩] [])
 (.cond (.t 22)
 (.seq (.reg [⟨(some 24), (.fad 13 (.t 2)), none, 2⟩, ⟨(some 25), (.load (some 8) (.t 24)), none, 2⟩, ⟨(some 26), (.call (.c (.fn 65 [])) [(.t 25)]), none, 2⟩, ⟨(some 4), (.mov (.t 26)), none, 2⟩] [])
 .ret)
 (.seq (.reg [⟨(some 28), (.eq false .sc (.t 5) (.c (.int 5))), none, 2⟩, ⟨(some 27), (.mov (.t 28)), none, 2⟩] [])
 (.cond (.t 27)
 (.seq (.reg [⟨(some 29), (.fad 21 (.t 2)), none, 2⟩, ⟨(some 30), (.load none (.t 29)), none, 2⟩, ⟨(some 4), (.mov (.t 30)), none, 2⟩] [])
 .ret)
 (.seq (.reg [⟨(some 32), (.eq false .sc (.t 5) (.c (.int 6))), none, 2⟩, ⟨(some 31), (.mov (.t 32)), none, 2⟩] [])
 (.cond (.t 31)
 (.seq (.reg [⟨(some 33), (.fad 22 (.t 2)), none, 2⟩, ⟨(some 34), (.load none (.t 33)), none, 2⟩, ⟨(some 4), (.mov (.t 34)), none, 2⟩] [])
 .ret)
 (.seq (.reg [⟨(some 36), (.eq false .sc (.t 5) (.c (.int 7))), none, 2⟩, ⟨(some 35), (.mov (.t 36)), none, 2⟩] [])
 (.cond (.t 35)
 (.seq (.reg [⟨(some 37), (.fad 23 (.t 2)), none, 2⟩, ⟨(some 38), (.load none (.t 37)), none, 2⟩, ⟨(some 4), (.mov (.t 38)), none, 2⟩] [])
 .ret)
 (.seq (.reg [⟨(some 40), (.eq false .sc (.t 5) (.c (.int 8))), none, 2⟩, ⟨(some 39), (.mov (.t 40)), none, 2⟩] [])
 (.cond (.t 39)
 (.seq (.reg [⟨(some 41), (.fad 24 (.t 2)), none, 2⟩, ⟨(some 42), (.load none (.t 41)), none, 2⟩, ⟨(some 4), (.mov (.t 42)), none, 2⟩] [])
 .ret)
 (.seq (.reg [⟨(some 44), (.eq false .sc (.t 5) (.c (.int 9))), none, 2⟩, ⟨(some 43), (.mov (.t 44)), none, 2⟩] [])
 (.cond (.t 43)
 (.seq (.reg [⟨(some 45), (.fad 25 (.t 2)), none, 2⟩, ⟨(some 46), (.load none (.t 45)), none, 2⟩, ⟨(some 4), (.mov (.t 46)), none, 2⟩] [])
 .ret)
 (.seq (.reg [⟨(some 48), (.eq false .sc (.t 5) (.c (.int 10))), none, 2⟩, ⟨(some 47), (.mov (.t 48)), none, 2⟩] [])
 (.cond (.t 47)
 (.seq (.reg [⟨(some 49), (.fad 2 (.t 2)), none, 2⟩, ⟨(some 50), (.load none (.t 49)), none, 2⟩, ⟨(some 51), (.call (.c (.fn 66 [])) [(.t 50)]), none, 2⟩, ⟨(some 4), (.mov (.t 51)), none, 2⟩] [])
 .ret)
 .skip))))))))))))))))))))))
 (.seq (.reg [⟨(some 52), (.fad 3 (.t 2)), none, 2⟩, ⟨(some 53), (.load none (.t 52)), none, 2⟩, ⟨(some 54), (.conv .iu8 (.t 53)), none, 2⟩, ⟨(some 55), (.bsl false .u8 1 1 [(.u8 0)] [(0, (1, (.t 54)))]), none, 2⟩, ⟨(some 4), (.mov (.t 55)), none, 2⟩] [])
 .ret)))
theorem o48 : FnOK Try.prog 48 N48 res48 c48 := ⟨_, _, Try.f48.results.toList, [], pures, Try.func48, show _ = some (Try.f48.body.getD .skip) by kernel_rfl, (Array.toArray_toList).symm, by kernel_rfl, by kernel_rfl, by kernel_rfl, by kernel_rfl, follows, callFunc_enter Try.func48 (by kernel_rfl) (by kernel_rfl)⟩
-- sentinel/wire.wants
def N49 : Nat := 47
def keep49 : List Nat := [0, 1, 2, 3, 8, 9, 11, 14, 16, 19, 22, 27, 30, 33, 36, 40, 44]
def res49 : List RV := [(.t 2)]
def c49 : CC :=
 (.seq (.reg [⟨(some 1), (.box (.t 0)), none, 2⟩, ⟨(some 2), (.mov (.c (.sl true 0 0 (.agg []) true))), none, 2⟩] [])
 (.seq (.reg [⟨(some 4), (.fad 1 (.t 1)), none, 2⟩, ⟨(some 5), (.load none (.t 4)), none, 2⟩, ⟨(some 6), (.eq false .sc (.t 5) (.c (.int 2))), none, 2⟩, ⟨(some 3), (.mov (.t 6)), none, 2⟩] [])
 (.seq (.seq (.reg [⟨(some 7), (.fad 0 (.t 1)), none, 2⟩, ⟨(some 8), (.load none (.t 7)), none, 2⟩] [])
 (.block 0 (.seq (.reg [⟨(some 10), (.eq false .sc (.t 8) (.c (.int 1))), none, 2⟩, ⟨(some 9), (.mov (.t 10)), none, 2⟩] [])
 (.cond (.t 9)
 (.seq (.seq (.reg [⟨(some 11), (.mov (.t 3)), none, 2⟩] [])
 (.cond (.t 11)
 (.seq (.reg [⟨(some 12), (.bsl false .int 1 4 [(.int 0)] [(0, (1, (.c (.int 1)))), (1, (1, (.c (.int 2)))), (2, (1, (.c (.int 3)))), (3, (1, (.c (.int 4))))]), none, 2⟩, ⟨(some 2), (.mov (.t 12)), none, 2⟩] [])
 .ret)
 .skip))
 (.seq (.reg [⟨(some 13), (.bsl false .int 1 3 [(.int 0)] [(0, (1, (.c (.int 1)))), (1, (1, (.c (.int 2)))), (2, (1, (.c (.int 3))))]), none, 2⟩, ⟨(some 2), (.mov (.t 13)), none, 2⟩] [])
 .ret))
 (.seq (.reg [⟨(some 15), (.eq false .sc (.t 8) (.c (.int 2))), none, 2⟩, ⟨(some 14), (.mov (.t 15)), none, 2⟩] [])
 (.cond (.t 14)
 (.seq (.seq (.reg [⟨(some 16), (.mov (.t 3)), none, 2⟩] [])
 (.cond (.t 16)
 (.seq (.reg [⟨(some 17), (.bsl false .int 1 4 [(.int 0)] [(0, (1, (.c (.int 1)))), (1, (1, (.c (.int 3)))), (2, (1, (.c (.int 4)))), (3, (1, (.c (.int 6))))]), none, 2⟩, ⟨(some 2), (.mov (.t 17)), none, 2⟩] [])
 .ret)
 .skip))
 (.seq (.reg [⟨(some 18), (.bsl false .int 1 3 [(.int 0)] [(0, (1, (.c (.int 1)))), (1, (1, (.c (.int 4)))), (2, (1, (.c (.int 5))))]), none, 2⟩, ⟨(some 2), (.mov (.t 18)), none, 2⟩] [])
 .ret))
 (.seq (.reg [⟨(some 20), (.eq false .sc (.t 8) (.c (.int 3))), none, 2⟩, ⟨(some 19), (.mov (.t 20)), none, 2⟩] [])
 (.cond (.t 19)
 (.seq (.reg [⟨(some 21), (.bsl false .int 1 1 [(.int 0)] [(0, (1, (.c (.int 7))))]), none, 2⟩, ⟨(some 2), (.mov (.t 21)), none, 2⟩] [])
 .ret)
 (.seq (.reg [⟨(some 23), (.eq false .sc (.t 8) (.c (.int 4))), none, 2⟩, ⟨(some 22), (.mov (.t 23)), none, 2⟩] [])
 (.cond (.t 22)
 (.seq (.seq (.reg [⟨(some 24), (.fad 23 (.t 1)), none, 2⟩, ⟨(some 25), (.load none (.t 24)), none, 2⟩, ⟨(some 26), (.len false (.t 25)), none, 2⟩, ⟨(some 27), (.bin .gtr (.t 26) (.c (.int 0))), none, 2⟩] [])
 (.cond (.t 27)
 (.seq (.reg [⟨(some 28), (.bsl false .int 1 2 [(.int 0)] [(0, (1, (.c (.int 7)))), (1, (1, (.c (.int 8))))]), none, 2⟩, ⟨(some 2), (.mov (.t 28)), none, 2⟩] [])
 .ret)
 .skip))
 (.seq (.reg [⟨(some 29), (.bsl false .int 1 1 [(.int 0)] [(0, (1, (.c (.int 8))))]), none, 2⟩, ⟨(some 2), (.mov (.t 29)), none, 2⟩] [])
 .ret))
 (.seq (.reg [⟨(some 31), (.eq false .sc (.t 8) (.c (.int 5))), none, 2⟩, ⟨(some 30), (.mov (.t 31)), none, 2⟩] [])
 (.cond (.t 30)
 (.seq (.reg [⟨(some 32), (.bsl false .int 1 1 [(.int 0)] [(0, (1, (.c (.int 11))))]), none, 2⟩, ⟨(some 2), (.mov (.t 32)), none, 2⟩] [])
 .ret)
 (.seq (.reg [⟨(some 34), (.eq false .sc (.t 8) (.c (.int 6))), none, 2⟩, ⟨(some 33), (.mov (.t 34)), none, 2⟩] [])
 (.cond (.t 33)
 (.seq (.reg [⟨(some 35), (.bsl false .int 1 3 [(.int 0)] [(0, (1, (.c (.int 1)))), (1, (1, (.c (.int 2)))), (2, (1, (.c (.int 9))))]), none, 2⟩, ⟨(some 2), (.mov (.t 35)), none, 2⟩] [])
 .ret)
 (.seq (.seq (.reg [⟨(some 37), (.eq false .sc (.t 8) (.c (.int 8))), none, 2⟩, ⟨(some 36), (.mov (.t 37)), none, 2⟩] [])
 (.cond (.t 36)
 .skip
 (.reg [⟨(some 38), (.eq false .sc (.t 8) (.c (.int 12))), none, 2⟩, ⟨(some 36), (.mov (.t 38)), none, 2⟩] [])))
 (.cond (.t 36)
 (.seq (.reg [⟨(some 39), (.bsl false .int 1 2 [(.int 0)] [(0, (1, (.c (.int 8)))), (1, (1, (.c (.int 10))))]), none, 2⟩, ⟨(some 2), (.mov (.t 39)), none, 2⟩] [])
 .ret)
 (.seq (.seq (.reg [⟨(some 41), (.eq false .sc (.t 8) (.c (.int 9))), none, 2⟩, ⟨(some 40), (.mov (.t 41)), none, 2⟩] [])
 (.cond (.t 40)
 .skip
 (.reg [⟨(some 42), (.eq false .sc (.t 8) (.c (.int 10))), none, 2⟩, ⟨(some 40), (.mov (.t 42)), none, 2⟩] [])))
 (.cond (.t 40)
 (.seq (.reg [⟨(some 43), (.bsl false .int 1 1 [(.int 0)] [(0, (1, (.c (.int 8))))]), none, 2⟩, ⟨(some 2), (.mov (.t 43)), none, 2⟩] [])
 .ret)
 (.seq (.reg [⟨(some 45), (.eq false .sc (.t 8) (.c (.int 11))), none, 2⟩, ⟨(some 44), (.mov (.t 45)), none, 2⟩] [])
 (.cond (.t 44)
 (.seq (.reg [⟨(some 46), (.bsl false .int 1 3 [(.int 0)] [(0, (1, (.c (.int 1)))), (1, (1, (.c (.int 8)))), (2, (1, (.c (.int 9))))]), none, 2⟩, ⟨(some 2), (.mov (.t 46)), none, 2⟩] [])
 .ret)
 .skip))))))))))))))))))))
 (.seq (.reg [⟨(some 2), (.mov (.c (.sl true 0 0 (.agg []) true))), none, 2⟩] [])
 .ret))))
theorem o49 : FnOK Try.prog 49 N49 res49 c49 := ⟨_, _, Try.f49.results.toList, [], pures, Try.func49, show _ = some (Try.f49.body.getD .skip) by kernel_rfl, (Array.toArray_toList).symm, by kernel_rfl, by kernel_rfl, by kernel_rfl, by kernel_rfl, follows, callFunc_enter Try.func49 (by kernel_rfl) (by kernel_rfl)⟩
-- slices.Contains[[]int,int]
def N50 : Nat := 9
def keep50 : List Nat := [0, 1, 4]
def res50 : List RV := [(.t 4)]
def c50 : CC :=
 (.seq (.reg [⟨(some 4), (.mov (.c (.bool false))), none, 2⟩] [])
 (.seq (.reg [⟨(some 5), (.mov (.t 0)), none, 2⟩, ⟨(some 6), (.mov (.t 1)), none, 2⟩, ⟨(some 7), (.call (.c (.fn 79 [])) [(.t 5), (.t 6)]), none, 2⟩, ⟨(some 8), (.bin .geq (.t 7) (.c (.int 0))), none, 2⟩, ⟨(some 4), (.mov (.t 8)), none, 2⟩] [])
 .ret))
theorem o50 : FnOK Try.prog 50 N50 res50 c50 := ⟨_, _, Try.f50.results.toList, [], pures, Try.func50, show _ = some (Try.f50.body.getD .skip) by kernel_rfl, (Array.toArray_toList).symm, by kernel_rfl, by kernel_rfl, by kernel_rfl, by kernel_rfl, follows, callFunc_enter Try.func50 (by kernel_rfl) (by kernel_rfl)⟩
-- (*sentinel/wire.reader).take
def N51 : Nat := 40
def keep51 : List Nat := [0, 1, 4, 5, 16]
def res51 : List RV := [(.t 4)]
def c51 : CC :=
 (.seq (.reg [⟨(some 4), (.mov (.c (.sl true 0 0 (.agg []) true))), none, 2⟩] [])
 (.seq (.seq (.reg [⟨(some 6), (.mov (.t 1)), none, 2⟩, ⟨(some 7), (.bin .lss (.t 6) (.c (.int 0))), none, 2⟩, ⟨(some 8), (.mov (.t 7)), none, 2⟩, ⟨(some 9), (.mov (.t 1)), (some (8, false)), 2⟩, ⟨(some 10), (.mov (.t 0)), (some (8, false)), 2⟩, ⟨(some 11), (.nilck (.t 10)), (some (8, false)), 2⟩, ⟨(some 12), (.fad 0 (.t 11)), (some (8, false)), 2⟩, ⟨(some 13), (.load none (.t 12)), (some (8, false)), 2⟩, ⟨(some 14), (.len false (.t 13)), (some (8, false)), 2⟩, ⟨(some 15), (.bin .gtr (.t 9) (.t 14)), (some (8, false)), 2⟩, ⟨(some 16), (.pick (.t 8) (.c (.bool true)) (.t 15)), none, 2⟩] [])
 (.cond (.t 16)
 (.seq (.reg [⟨(some 17), (.mov (.t 0)), none, 2⟩, ⟨(some 18), (.mov (.t 0)), none, 2⟩, ⟨(some 19), (.nilck (.t 17)), none, 2⟩, ⟨(some 20), (.fad 0 (.t 19)), none, 2⟩, ⟨none, (.store none (.t 20) (.c (.sl true 0 0 (.agg []) true))), none, 2⟩, ⟨(some 21), (.nilck (.t 18)), none, 2⟩, ⟨(some 22), (.fad 1 (.t 21)), none, 2⟩, ⟨none, (.store none (.t 22) (.c (.bool true))), none, 2⟩] [])
 (.seq (.reg [⟨(some 4), (.mov (.c (.sl true 0 0 (.agg []) true))), none, 2⟩] [])
 .ret))
 .skip))
 (.seq (.reg [⟨(some 23), (.mov (.t 0)), none, 2⟩, ⟨(some 24), (.nilck (.t 23)), none, 2⟩, ⟨(some 25), (.fad 0 (.t 24)), none, 2⟩, ⟨(some 26), (.load none (.t 25)), none, 2⟩, ⟨(some 27), (.mov (.t 1)), none, 2⟩, ⟨(some 28), (.slcS 1 (.t 26) none (some (.t 27)) none), none, 2⟩, ⟨(some 5), (.mov (.t 28)), none, 2⟩] [])
 (.seq (.reg [⟨(some 29), (.mov (.t 0)), none, 2⟩, ⟨(some 30), (.mov (.t 0)), none, 2⟩, ⟨(some 31), (.nilck (.t 30)), none, 2⟩, ⟨(some 32), (.fad 0 (.t 31)), none, 2⟩, ⟨(some 33), (.load none (.t 32)), none, 2⟩, ⟨(some 34), (.mov (.t 1)), none, 2⟩, ⟨(some 35), (.slcS 1 (.t 33) (some (.t 34)) none none), none, 2⟩, ⟨(some 36), (.nilck (.t 29)), none, 2⟩, ⟨(some 37), (.fad 0 (.t 36)), none, 2⟩, ⟨none, (.store none (.t 37) (.t 35)), none, 2⟩] [])
 (.seq (.reg [⟨(some 38), (.mov (.t 5)), none, 2⟩, ⟨(some 39), (.call (.c (.fn 64 [])) [(.t 38)]), none, 2⟩, ⟨(some 4), (.mov (.t 39)), none, 2⟩] [])
 .ret)))))
theorem o51 : FnOK Try.prog 51 N51 res51 c51 := ⟨_, _, Try.f51.results.toList, [], pures, Try.func51, show _ = some (Try.f51.body.getD .skip) by kernel_rfl, (Array.toArray_toList).symm, by kernel_rfl, by kernel_rfl, by kernel_rfl, by kernel_rfl, follows, callFunc_enter Try.func51 (by kernel_rfl) (by kernel_rfl)⟩
-- (*sentinel/wire.reader).number
def N52 : Nat := 18
def keep52 : List Nat := [0, 1, 4, 5]
def res52 : List RV := [(.t 4)]
def c52 : CC :=
 (.seq (.reg [⟨(some 4), (.mov (.c (.int 0))), none, 2⟩] [])
 (.seq (.reg [⟨(some 6), (.mov (.t 0)), none, 2⟩, ⟨(some 7), (.mov (.t 1)), none, 2⟩, ⟨(some 8), (.call (.c (.fn 67 [])) [(.t 6), (.t 7)]), none, 2⟩, ⟨(some 5), (.alloc (.agg [(.u32 0), (.u32 0), (.u32 0), (.u32 0), (.u32 0), (.u32 0), (.u32 0), (.u32 0)])), none, 2⟩, ⟨none, (.store (some 8) (.t 5) (.t 8)), none, 2⟩] [])
 (.seq (.reg [⟨(some 9), (.iadA 8 1 (.t 5) (.c (.int 0))), none, 2⟩, ⟨(some 10), (.load none (.t 9)), none, 2⟩, ⟨(some 11), (.conv .u32u64 (.t 10)), none, 2⟩, ⟨(some 12), (.iadA 8 1 (.t 5) (.c (.int 1))), none, 2⟩, ⟨(some 13), (.load none (.t 12)), none, 2⟩, ⟨(some 14), (.conv .u32u64 (.t 13)), none, 2⟩, ⟨(some 15), (.bin .shl (.t 14) (.c (.u64 32))), none, 2⟩, ⟨(some 16), (.bin .or (.t 11) (.t 15)), none, 2⟩, ⟨(some 17), (.conv .u64i (.t 16)), none, 2⟩, ⟨(some 4), (.mov (.t 17)), none, 2⟩] [])
 .ret)))
theorem o52 : FnOK Try.prog 52 N52 res52 c52 := ⟨_, _, Try.f52.results.toList, [], pures, Try.func52, show _ = some (Try.f52.body.getD .skip) by kernel_rfl, (Array.toArray_toList).symm, by kernel_rfl, by kernel_rfl, by kernel_rfl, by kernel_rfl, follows, callFunc_enter Try.func52 (by kernel_rfl) (by kernel_rfl)⟩
-- sentinel/wire.put
def N53 : Nat := 84
def keep53 : List Nat := [0, 1, 2, 6, 7, 11, 12, 19, 26, 33, 40, 46, 52, 58, 64, 70, 77]
def res53 : List RV := [(.t 6)]
def c53 : CC :=
 (.seq (.reg [⟨(some 6), (.mov (.c (.bool false))), none, 2⟩] [])
 (.seq (.reg [⟨(some 8), (.mov (.t 2)), none, 2⟩, ⟨(some 9), (.build [(.sl true 0 0 (.agg []) true), (.bool false)] [(0, (1, (.t 8)))]), none, 2⟩, ⟨(some 10), (.box (.t 9)), none, 2⟩, ⟨(some 7), (.mov (.t 10)), none, 2⟩] [])
 (.seq (.seq (.reg [⟨(some 11), (.mov (.t 1)), none, 2⟩] [])
 (.block 0 (.seq (.reg [⟨(some 13), (.eq false .sc (.t 11) (.c (.int 1))), none, 2⟩, ⟨(some 12), (.mov (.t 13)), none, 2⟩] [])
 (.cond (.t 12)
 (.reg [⟨(some 14), (.mov (.t 0)), none, 2⟩, ⟨(some 15), (.mov (.t 7)), none, 2⟩, ⟨(some 16), (.call (.c (.fn 52 [])) [(.t 15), (.c (.int 1))]), none, 2⟩, ⟨(some 17), (.nilck (.t 14)), none, 2⟩, ⟨(some 18), (.fad 1 (.t 17)), none, 2⟩, ⟨none, (.store none (.t 18) (.t 16)), none, 2⟩] [])
 (.seq (.reg [⟨(some 20), (.eq false .sc (.t 11) (.c (.int 2))), none, 2⟩, ⟨(some 19), (.mov (.t 20)), none, 2⟩] [])
 (.cond (.t 19)
 (.reg [⟨(some 21), (.mov (.t 0)), none, 2⟩, ⟨(some 22), (.mov (.t 2)), none, 2⟩, ⟨(some 23), (.conv .bstr (.t 22)), none, 2⟩, ⟨(some 24), (.nilck (.t 21)), none, 2⟩, ⟨(some 25), (.fad 4 (.t 24)), none, 2⟩, ⟨none, (.store none (.t 25) (.t 23)), none, 2⟩] [])
 (.seq (.reg [⟨(some 27), (.eq false .sc (.t 11) (.c (.int 3))), none, 2⟩, ⟨(some 26), (.mov (.t 27)), none, 2⟩] [])
 (.cond (.t 26)
 (.reg [⟨(some 28), (.mov (.t 0)), none, 2⟩, ⟨(some 29), (.mov (.t 7)), none, 2⟩, ⟨(some 30), (.call (.c (.fn 67 [])) [(.t 29), (.c (.int 4))]), none, 2⟩, ⟨(some 31), (.nilck (.t 28)), none, 2⟩, ⟨(some 32), (.fad 5 (.t 31)), none, 2⟩, ⟨none, (.store (some 8) (.t 32) (.t 30)), none, 2⟩] [])
 (.seq (.reg [⟨(some 34), (.eq false .sc (.t 11) (.c (.int 4))), none, 2⟩, ⟨(some 33), (.mov (.t 34)), none, 2⟩] [])
 (.cond (.t 33)
 (.reg [⟨(some 35), (.mov (.t 0)), none, 2⟩, ⟨(some 36), (.mov (.t 7)), none, 2⟩, ⟨(some 37), (.call (.c (.fn 67 [])) [(.t 36), (.c (.int 4))]), none, 2⟩, ⟨(some 38), (.nilck (.t 35)), none, 2⟩, ⟨(some 39), (.fad 13 (.t 38)), none, 2⟩, ⟨none, (.store (some 8) (.t 39) (.t 37)), none, 2⟩] [])
 (.seq (.reg [⟨(some 41), (.eq false .sc (.t 11) (.c (.int 5))), none, 2⟩, ⟨(some 40), (.mov (.t 41)), none, 2⟩] [])
 (.cond (.t 40)
 (.reg [⟨(some 42), (.mov (.t 0)), none, 2⟩, ⟨(some 43), (.mov (.t 2)), none, 2⟩, ⟨(some 44), (.nilck (.t 42)), none, 2⟩, ⟨(some 45), (.fad 21 (.t 44)), none, 2⟩, ⟨none, (.store none (.t 45) (.t 43)), none, 2⟩] [])
 (.seq (.reg [⟨(some 47), (.eq false .sc (.t 11) (.c (.int 6))), none, 2⟩, ⟨(some 46), (.mov (.t 47)), none, 2⟩] [])
 (.cond (.t 46)
 (.reg [⟨(some 48), (.mov (.t 0)), none, 2⟩, ⟨(some 49), (.mov (.t 2)), none, 2⟩, ⟨(some 50), (.nilck (.t 48)), none, 2⟩, ⟨(some 51), (.fad 22 (.t 50)), none, 2⟩, ⟨none, (.store none (.t 51) (.t 49)), none, 2⟩] [])
 (.seq (.reg [⟨(some 53), (.eq false .sc (.t 11) (.c (.int 7))), none, 2⟩, ⟨(some 52), (.mov (.t 53)), none, 2⟩] [])
 (.cond (.t 52)
 (.reg [⟨(some 54), (.mov (.t 0)), none, 2⟩, ⟨(some 55), (.mov (.t 2)), none, 2⟩, ⟨(some 56), (.nilck (.t 54)), none, 2⟩, ⟨(some 57), (.fad 23 (.t 56)), none, 2⟩, ⟨none, (.store none (.t 57) (.t 55)), none, 2⟩] [])
 (.seq (.reg [⟨(some 59), (.eq false .sc (.t 11) (.c (.int 8))), none, 2⟩, ⟨(some 58), (.mov (.t 59)), none, 2⟩] [])
 (.cond (.t 58)
 (.reg [⟨(some 60), (.mov (.t 0)), none, 2⟩, ⟨(some 61), (.mov (.t 2)), none, 2⟩, ⟨(some 62), (.nilck (.t 60)), none, 2⟩, ⟨(some 63), (.fad 24 (.t 62)), none, 2⟩, ⟨none, (.store none (.t 63) (.t 61)), none, 2⟩] [])
 (.seq (.reg [⟨(some 65), (.eq false .sc (.t 11) (.c (.int 9))), none, 2⟩, ⟨(some 64), (.mov (.t 65)), none, 2⟩] [])
 (.cond (.t 64)
 (.reg [⟨(some 66), (.mov (.t 0)), none, 2⟩, ⟨(some 67), (.mov (.t 2)), none, 2⟩, ⟨(some 68), (.nilck (.t 66)), none, 2⟩, ⟨(some 69), (.fad 25 (.t 68)), none, 2⟩, ⟨none, (.store none (.t 69) (.t 67)), none, 2⟩] [])
 (.seq (.reg [⟨(some 71), (.eq false .sc (.t 11) (.c (.int 10))), none, 2⟩, ⟨(some 70), (.mov (.t 71)), none, 2⟩] [])
 (.cond (.t 70)
 (.reg [⟨(some 72), (.mov (.t 0)), none, 2⟩, ⟨(some 73), (.mov (.t 7)), none, 2⟩, ⟨(some 74), (.call (.c (.fn 52 [])) [(.t 73), (.c (.int 8))]), none, 2⟩, ⟨(some 75), (.nilck (.t 72)), none, 2⟩, ⟨(some 76), (.fad 2 (.t 75)), none, 2⟩, ⟨none, (.store none (.t 76) (.t 74)), none, 2⟩] [])
 (.seq (.reg [⟨(some 78), (.eq false .sc (.t 11) (.c (.int 11))), none, 2⟩, ⟨(some 77), (.mov (.t 78)), none, 2⟩] [])
 (.cond (.t 77)
 (.reg [⟨(some 79), (.mov (.t 0)), none, 2⟩, ⟨(some 80), (.mov (.t 7)), none, 2⟩, ⟨(some 81), (.call (.c (.fn 52 [])) [(.t 80), (.c (.int 1))]), none, 2⟩, ⟨(some 82), (.nilck (.t 79)), none, 2⟩, ⟨(some 83), (.fad 3 (.t 82)), none, 2⟩, ⟨none, (.store none (.t 83) (.t 81)), none, 2⟩] [])
 (.seq (.reg [⟨(some 6), (.mov (.c (.bool false))), none, 2⟩] [])
 .ret)))))))))))))))))))))))))
 (.seq (.reg [⟨(some 6), (.mov (.c (.bool true))), none, 2⟩] [])
 .ret))))
theorem o53 : FnOK Try.prog 53 N53 res53 c53 := ⟨_, _, Try.f53.results.toList, [], pures, Try.func53, show _ = some (Try.f53.body.getD .skip) by kernel_rfl, (Array.toArray_toList).symm, by kernel_rfl, by kernel_rfl, by kernel_rfl, by kernel_rfl, follows, callFunc_enter Try.func53 (by kernel_rfl) (by kernel_rfl)⟩
-- (*sentinel/wire.reader).long
def N54 : Nat := 7
def keep54 : List Nat := [0, 2]
def res54 : List RV := [(.t 2)]
def c54 : CC :=
 (.seq (.reg [⟨(some 2), (.mov (.c (.sl true 0 0 (.agg []) true))), none, 2⟩] [])
 (.seq (.reg [⟨(some 3), (.mov (.t 0)), none, 2⟩, ⟨(some 4), (.mov (.t 0)), none, 2⟩, ⟨(some 5), (.call (.c (.fn 52 [])) [(.t 4), (.c (.int 1))]), none, 2⟩, ⟨(some 6), (.call (.c (.fn 51 [])) [(.t 3), (.t 5)]), none, 2⟩, ⟨(some 2), (.mov (.t 6)), none, 2⟩] [])
 .ret))
theorem o54 : FnOK Try.prog 54 N54 res54 c54 := ⟨_, _, Try.f54.results.toList, [], pures, Try.func54, show _ = some (Try.f54.body.getD .skip) by kernel_rfl, (Array.toArray_toList).symm, by kernel_rfl, by kernel_rfl, by kernel_rfl, by kernel_rfl, follows, callFunc_enter Try.func54 (by kernel_rfl) (by kernel_rfl)⟩
-- bytes.Equal
def N55 : Nat := 10
def keep55 : List Nat := [0, 1, 4]
def res55 : List RV := [(.t 4)]
def c55 : CC :=
 (.seq (.reg [⟨(some 4), (.mov (.c (.bool false))), none, 2⟩] [])
 (.seq (.reg [⟨(some 5), (.mov (.t 0)), none, 2⟩, ⟨(some 6), (.conv .bstr (.t 5)), none, 2⟩, ⟨(some 7), (.mov (.t 1)), none, 2⟩, ⟨(some 8), (.conv .bstr (.t 7)), none, 2⟩, ⟨(some 9), (.eq false .sc (.t 6) (.t 8)), none, 2⟩, ⟨(some 4), (.mov (.t 9)), none, 2⟩] [])
 .ret))
theorem o55 : FnOK Try.prog 55 N55 res55 c55 := ⟨_, _, Try.f55.results.toList, [], pures, Try.func55, show _ = some (Try.f55.body.getD .skip) by kernel_rfl, (Array.toArray_toList).symm, by kernel_rfl, by kernel_rfl, by kernel_rfl, by kernel_rfl, follows, callFunc_enter Try.func55 (by kernel_rfl) (by kernel_rfl)⟩
-- sentinel/sentinelref5.set
def N56 : Nat := 72
def keep56 : List Nat := [0, 1, 2, 3, 6, 7, 9, 22, 23, 28, 33, 37, 41, 45, 49, 53, 57, 61, 66]
def res56 : List RV := [(.c 6 (some 26))]
def c56 : CC :=
 (.seq (.reg [⟨(some 3), (.box (.t 0)), none, 2⟩, ⟨(some 6), (.alloc (.agg [(.int 0), (.int 0), (.int 0), (.int 0), (.str []), (.u32 0), (.u32 0), (.u32 0), (.u32 0), (.u32 0), (.u32 0), (.u32 0), (.u32 0), (.u32 0), (.u32 0), (.u32 0), (.u32 0), (.u32 0), (.u32 0), (.u32 0), (.u32 0), (.sl true 0 0 (.agg []) true), (.sl true 0 0 (.agg []) true), (.sl true 0 0 (.agg []) true), (.sl true 0 0 (.agg []) true), (.sl true 0 0 (.agg []) true)])), none, 2⟩] [])
 (.seq (.reg [⟨(some 11), (.mov (.t 2)), none, 2⟩, ⟨(some 12), (.mov (.t 2)), none, 2⟩, ⟨(some 13), (.len false (.t 12)), none, 2⟩, ⟨(some 14), (.mn (.t 13) (.c (.int 32))), none, 2⟩, ⟨(some 15), (.slcS 1 (.t 11) none (some (.t 14)) none), none, 2⟩, ⟨(some 16), (.call (.c (.fn 70 [])) [(.t 15)]), none, 2⟩, ⟨(some 10), (.mov (.t 16)), none, 2⟩, ⟨(some 17), (.ext (.t 10) 0), none, 2⟩, ⟨(some 18), (.ext (.t 10) 1), none, 2⟩, ⟨(some 7), (.alloc (.agg [(.u32 0), (.u32 0), (.u32 0), (.u32 0), (.u32 0), (.u32 0), (.u32 0), (.u32 0)])), none, 2⟩, ⟨none, (.store (some 8) (.t 7) (.t 17)), none, 2⟩, ⟨(some 8), (.mov (.t 18)), none, 2⟩] [])
 (.seq (.reg [⟨(some 19), (.bsl false .u8 1 0 [(.u8 0)] []), none, 2⟩, ⟨(some 20), (.mov (.t 2)), none, 2⟩, ⟨(some 21), (.app true 1 1 (.t 19) (.t 20)), none, 2⟩, ⟨(some 9), (.mov (.t 21)), none, 2⟩] [])
 (.seq (.seq (.reg [⟨(some 22), (.mov (.t 1)), none, 2⟩] [])
 (.block 0 (.seq (.reg [⟨(some 24), (.eq false .sc (.t 22) (.c (.int 1))), none, 2⟩, ⟨(some 23), (.mov (.t 24)), none, 2⟩] [])
 (.cond (.t 23)
 (.reg [⟨(some 25), (.mov (.t 2)), none, 2⟩, ⟨(some 26), (.call (.c (.fn 68 [])) [(.t 25)]), none, 2⟩, ⟨(some 27), (.fad 1 (.t 3)), none, 2⟩, ⟨none, (.store none (.t 27) (.t 26)), none, 2⟩] [])
 (.seq (.reg [⟨(some 29), (.eq false .sc (.t 22) (.c (.int 2))), none, 2⟩, ⟨(some 28), (.mov (.t 29)), none, 2⟩] [])
 (.cond (.t 28)
 (.reg [⟨(some 30), (.mov (.t 2)), none, 2⟩, ⟨(some 31), (.conv .bstr (.t 30)), none, 2⟩, ⟨(some 32), (.fad 4 (.t 3)), none, 2⟩, ⟨none, (.store none (.t 32) (.t 31)), none, 2⟩] [])
 (.seq (.reg [⟨(some 34), (.eq false .sc (.t 22) (.c (.int 3))), none, 2⟩, ⟨(some 33), (.mov (.t 34)), none, 2⟩] [])
 (.cond (.t 33)
 (.reg [⟨(some 35), (.load (some 8) (.t 7)), none, 2⟩, ⟨(some 36), (.fad 5 (.t 3)), none, 2⟩, ⟨none, (.store (some 8) (.t 36) (.t 35)), none, 2⟩] [])
 (.seq (.reg [⟨(some 38), (.eq false .sc (.t 22) (.c (.int 4))), none, 2⟩, ⟨(some 37), (.mov (.t 38)), none, 2⟩] [])
 (.cond (.t 37)
 (.reg [⟨(some 39), (.load (some 8) (.t 7)), none, 2⟩, ⟨(some 40), (.fad 13 (.t 3)), none, 2⟩, ⟨none, (.store (some 8) (.t 40) (.t 39)), none, 2⟩] [])
 (.seq (.reg [⟨(some 42), (.eq false .sc (.t 22) (.c (.int 5))), none, 2⟩, ⟨(some 41), (.mov (.t 42)), none, 2⟩] [])
 (.cond (.t 41)
 (.reg [⟨(some 43), (.mov (.t 9)), none, 2⟩, ⟨(some 44), (.fad 21 (.t 3)), none, 2⟩, ⟨none, (.store none (.t 44) (.t 43)), none, 2⟩] [])
 (.seq (.reg [⟨(some 46), (.eq false .sc (.t 22) (.c (.int 6))), none, 2⟩, ⟨(some 45), (.mov (.t 46)), none, 2⟩] [])
 (.cond (.t 45)
 (.reg [⟨(some 47), (.mov (.t 9)), none, 2⟩, ⟨(some 48), (.fad 22 (.t 3)), none, 2⟩, ⟨none, (.store none (.t 48) (.t 47)), none, 2⟩] [])
 (.seq (.reg [⟨(some 50), (.eq false .sc (.t 22) (.c (.int 7))), none, 2⟩, ⟨(some 49), (.mov (.t 50)), none, 2⟩] [])
 (.cond (.t 49)
 (.reg [⟨(some 51), (.mov (.t 9)), none, 2⟩, ⟨(some 52), (.fad 23 (.t 3)), none, 2⟩, ⟨none, (.store none (.t 52) (.t 51)), none, 2⟩] [])
 (.seq (.reg [⟨(some 54), (.eq false .sc (.t 22) (.c (.int 8))), none, 2⟩, ⟨(some 53), (.mov (.t 54)), none, 2⟩] [])
 (.cond (.t 53)
 (.reg [⟨(some 55), (.mov (.t 9)), none, 2⟩, ⟨(some 56), (.fad 24 (.t 3)), none, 2⟩, ⟨none, (.store none (.t 56) (.t 55)), none, 2⟩] [])
 (.seq (.reg [⟨(some 58), (.eq false .sc (.t 22) (.c (.int 9))), none, 2⟩, ⟨(some 57), (.mov (.t 58)), none, 2⟩] [])
 (.cond (.t 57)
 (.reg [⟨(some 59), (.mov (.t 9)), none, 2⟩, ⟨(some 60), (.fad 25 (.t 3)), none, 2⟩, ⟨none, (.store none (.t 60) (.t 59)), none, 2⟩] [])
 (.seq (.reg [⟨(some 62), (.eq false .sc (.t 22) (.c (.int 10))), none, 2⟩, ⟨(some 61), (.mov (.t 62)), none, 2⟩] [])
 (.cond (.t 61)
 (.reg [⟨(some 63), (.mov (.t 2)), none, 2⟩, ⟨(some 64), (.call (.c (.fn 68 [])) [(.t 63)]), none, 2⟩, ⟨(some 65), (.fad 2 (.t 3)), none, 2⟩, ⟨none, (.store none (.t 65) (.t 64)), none, 2⟩] [])
 (.seq (.reg [⟨(some 67), (.eq false .sc (.t 22) (.c (.int 11))), none, 2⟩, ⟨(some 66), (.mov (.t 67)), none, 2⟩] [])
 (.cond (.t 66)
 (.reg [⟨(some 68), (.mov (.t 2)), none, 2⟩, ⟨(some 69), (.call (.c (.fn 68 [])) [(.t 68)]), none, 2⟩, ⟨(some 70), (.fad 3 (.t 3)), none, 2⟩, ⟨none, (.store none (.t 70) (.t 69)), none, 2⟩] [])
 .skip))))))))))))))))))))))))
 (.seq (.reg [⟨(some 71), (.load (some 26) (.t 3)), none, 2⟩, ⟨none, (.store (some 26) (.t 6) (.t 71)), none, 2⟩] [])
 .ret)))))
theorem o56 : FnOK Try.prog 56 N56 res56 c56 := ⟨_, _, Try.f56.results.toList, [], pures, Try.func56, show _ = some (Try.f56.body.getD .skip) by kernel_rfl, (Array.toArray_toList).symm, by kernel_rfl, by kernel_rfl, by kernel_rfl, by kernel_rfl, follows, callFunc_enter Try.func56 (by kernel_rfl) (by kernel_rfl)⟩
-- sentinel/sentinelref5.wanted
def N57 : Nat := 61
def keep57 : List Nat := [0, 1, 2, 4, 5, 9, 14, 18, 23, 27, 32, 37, 41, 45, 47, 52, 57]
def res57 : List RV := [(.t 2)]
def c57 : CC :=
 (.seq (.reg [⟨(some 1), (.box (.t 0)), none, 2⟩, ⟨(some 2), (.mov (.c (.int 0))), none, 2⟩] [])
 (.seq (.seq (.reg [⟨(some 3), (.fad 0 (.t 1)), none, 2⟩, ⟨(some 4), (.load none (.t 3)), none, 2⟩] [])
 (.block 0 (.seq (.reg [⟨(some 6), (.eq false .sc (.t 4) (.c (.int 1))), none, 2⟩, ⟨(some 5), (.mov (.t 6)), none, 2⟩] [])
 (.cond (.t 5)
 (.seq (.seq (.reg [⟨(some 7), (.fad 1 (.t 1)), none, 2⟩, ⟨(some 8), (.load none (.t 7)), none, 2⟩, ⟨(some 9), (.eq false .sc (.t 8) (.c (.int 2))), none, 2⟩] [])
 (.cond (.t 9)
 (.seq (.reg [⟨(some 10), (.bsl false .int 1 4 [(.int 0)] [(0, (1, (.c (.int 1)))), (1, (1, (.c (.int 2)))), (2, (1, (.c (.int 3)))), (3, (1, (.c (.int 4))))]), none, 2⟩, ⟨(some 11), (.call (.c (.fn 80 [])) [(.t 10)]), none, 2⟩, ⟨(some 2), (.mov (.t 11)), none, 2⟩] [])
 .ret)
 .skip))
 (.seq (.reg [⟨(some 12), (.bsl false .int 1 3 [(.int 0)] [(0, (1, (.c (.int 1)))), (1, (1, (.c (.int 2)))), (2, (1, (.c (.int 3))))]), none, 2⟩, ⟨(some 13), (.call (.c (.fn 80 [])) [(.t 12)]), none, 2⟩, ⟨(some 2), (.mov (.t 13)), none, 2⟩] [])
 .ret))
 (.seq (.reg [⟨(some 15), (.eq false .sc (.t 4) (.c (.int 2))), none, 2⟩, ⟨(some 14), (.mov (.t 15)), none, 2⟩] [])
 (.cond (.t 14)
 (.seq (.seq (.reg [⟨(some 16), (.fad 1 (.t 1)), none, 2⟩, ⟨(some 17), (.load none (.t 16)), none, 2⟩, ⟨(some 18), (.eq false .sc (.t 17) (.c (.int 2))), none, 2⟩] [])
 (.cond (.t 18)
 (.seq (.reg [⟨(some 19), (.bsl false .int 1 4 [(.int 0)] [(0, (1, (.c (.int 1)))), (1, (1, (.c (.int 3)))), (2, (1, (.c (.int 4)))), (3, (1, (.c (.int 6))))]), none, 2⟩, ⟨(some 20), (.call (.c (.fn 80 [])) [(.t 19)]), none, 2⟩, ⟨(some 2), (.mov (.t 20)), none, 2⟩] [])
 .ret)
 .skip))
 (.seq (.reg [⟨(some 21), (.bsl false .int 1 3 [(.int 0)] [(0, (1, (.c (.int 1)))), (1, (1, (.c (.int 4)))), (2, (1, (.c (.int 5))))]), none, 2⟩, ⟨(some 22), (.call (.c (.fn 80 [])) [(.t 21)]), none, 2⟩, ⟨(some 2), (.mov (.t 22)), none, 2⟩] [])
 .ret))
 (.seq (.reg [⟨(some 24), (.eq false .sc (.t 4) (.c (.int 3))), none, 2⟩, ⟨(some 23), (.mov (.t 24)), none, 2⟩] [])
 (.cond (.t 23)
 (.seq (.reg [⟨(some 25), (.bsl false .int 1 1 [(.int 0)] [(0, (1, (.c (.int 7))))]), none, 2⟩, ⟨(some 26), (.call (.c (.fn 80 [])) [(.t 25)]), none, 2⟩, ⟨(some 2), (.mov (.t 26)), none, 2⟩] [])
 .ret)
 (.seq (.reg [⟨(some 28), (.eq false .sc (.t 4) (.c (.int 4))), none, 2⟩, ⟨(some 27), (.mov (.t 28)), none, 2⟩] [])
 (.cond (.t 27)
 (.seq (.seq (.reg [⟨(some 29), (.fad 23 (.t 1)), none, 2⟩, ⟨(some 30), (.load none (.t 29)), none, 2⟩, ⟨(some 31), (.len false (.t 30)), none, 2⟩, ⟨(some 32), (.bin .gtr (.t 31) (.c (.int 0))), none, 2⟩] [])
 (.cond (.t 32)
 (.seq (.reg [⟨(some 33), (.bsl false .int 1 2 [(.int 0)] [(0, (1, (.c (.int 7)))), (1, (1, (.c (.int 8))))]), none, 2⟩, ⟨(some 34), (.call (.c (.fn 80 [])) [(.t 33)]), none, 2⟩, ⟨(some 2), (.mov (.t 34)), none, 2⟩] [])
 .ret)
 .skip))
 (.seq (.reg [⟨(some 35), (.bsl false .int 1 1 [(.int 0)] [(0, (1, (.c (.int 8))))]), none, 2⟩, ⟨(some 36), (.call (.c (.fn 80 [])) [(.t 35)]), none, 2⟩, ⟨(some 2), (.mov (.t 36)), none, 2⟩] [])
 .ret))
 (.seq (.reg [⟨(some 38), (.eq false .sc (.t 4) (.c (.int 5))), none, 2⟩, ⟨(some 37), (.mov (.t 38)), none, 2⟩] [])
 (.cond (.t 37)
 (.seq (.reg [⟨(some 39), (.bsl false .int 1 1 [(.int 0)] [(0, (1, (.c (.int 11))))]), none, 2⟩, ⟨(some 40), (.call (.c (.fn 80 [])) [(.t 39)]), none, 2⟩, ⟨(some 2), (.mov (.t 40)), none, 2⟩] [])
 .ret)
 (.seq (.reg [⟨(some 42), (.eq false .sc (.t 4) (.c (.int 6))), none, 2⟩, ⟨(some 41), (.mov (.t 42)), none, 2⟩] [])
 (.cond (.t 41)
 (.seq (.reg [⟨(some 43), (.bsl false .int 1 3 [(.int 0)] [(0, (1, (.c (.int 1)))), (1, (1, (.c (.int 2)))), (2, (1, (.c (.int 9))))]), none, 2⟩, ⟨(some 44), (.call (.c (.fn 80 [])) [(.t 43)]), none, 2⟩, ⟨(some 2), (.mov (.t 44)), none, 2⟩] [])
 .ret)
 (.seq (.reg [⟨(some 46), (.eq false .sc (.t 4) (.c (.int 7))), none, 2⟩, ⟨(some 45), (.mov (.t 46)), none, 2⟩] [])
 (.cond (.t 45)
 (.seq (.reg [⟨(some 2), (.mov (.c (.int 0))), none, 2⟩] [])
 .ret)
 (.seq (.seq (.reg [⟨(some 48), (.eq false .sc (.t 4) (.c (.int 8))), none, 2⟩, ⟨(some 47), (.mov (.t 48)), none, 2⟩] [])
 (.cond (.t 47)
 .skip
 (.reg [⟨(some 49), (.eq false .sc (.t 4) (.c (.int 12))), none, 2⟩, ⟨(some 47), (.mov (.t 49)), none, 2⟩] [])))
 (.cond (.t 47)
 (.seq (.reg [⟨(some 50), (.bsl false .int 1 2 [(.int 0)] [(0, (1, (.c (.int 8)))), (1, (1, (.c (.int 10))))]), none, 2⟩, ⟨(some 51), (.call (.c (.fn 80 [])) [(.t 50)]), none, 2⟩, ⟨(some 2), (.mov (.t 51)), none, 2⟩] [])
 .ret)
 (.seq (.seq (.reg [⟨(some 53), (.eq false .sc (.t 4) (.c (.int 9))), none, 2⟩, ⟨(some 52), (.mov (.t 53)), none, 2⟩] [])
 (.cond (.t 52)
 .skip
 (.reg [⟨(some 54), (.eq false .sc (.t 4) (.c (.int 10))), none, 2⟩, ⟨(some 52), (.mov (.t 54)), none, 2⟩] [])))
 (.cond (.t 52)
 (.seq (.reg [⟨(some 55), (.bsl false .int 1 1 [(.int 0)] [(0, (1, (.c (.int 8))))]), none, 2⟩, ⟨(some 56), (.call (.c (.fn 80 [])) [(.t 55)]), none, 2⟩, ⟨(some 2), (.mov (.t 56)), none, 2⟩] [])
 .ret)
 (.seq (.reg [⟨(some 58), (.eq false .sc (.t 4) (.c (.int 11))), none, 2⟩, ⟨(some 57), (.mov (.t 58)), none, 2⟩] [])
 (.cond (.t 57)
 (.seq (.reg [⟨(some 59), (.bsl false .int 1 3 [(.int 0)] [(0, (1, (.c (.int 1)))), (1, (1, (.c (.int 8)))), (2, (1, (.c (.int 9))))]), none, 2⟩, ⟨(some 60), (.call (.c (.fn 80 [])) [(.t 59)]), none, 2⟩, ⟨(some 2), (.mov (.t 60)), none, 2⟩] [])
 .ret)
 .skip))))))))))))))))))))))
 (.seq (.reg [⟨(some 2), (.mov (.c (.int (-1)))), none, 2⟩] [])
 .ret)))
theorem o57 : FnOK Try.prog 57 N57 res57 c57 := ⟨_, _, Try.f57.results.toList, [], pures, Try.func57, show _ = some (Try.f57.body.getD .skip) by kernel_rfl, (Array.toArray_toList).symm, by kernel_rfl, by kernel_rfl, by kernel_rfl, by kernel_rfl, follows, callFunc_enter Try.func57 (by kernel_rfl) (by kernel_rfl)⟩
-- sentinel/sentinelref5.Name
def N58 : Nat := 28
def keep58 : List Nat := [0, 2, 3, 7, 19]
def res58 : List RV := [(.t 2)]
def c58 : CC :=
 (.seq (.reg [⟨(some 2), (.mov (.c (.bool false))), none, 2⟩] [])
 (.seq (.seq (.reg [⟨(some 3), (.mov (.c (.int 0))), none, 2⟩] [])
 (.block 0 (.loop (.seq (.seq (.reg [⟨(some 4), (.mov (.t 3)), none, 2⟩, ⟨(some 5), (.mov (.t 0)), none, 2⟩, ⟨(some 6), (.len true (.t 5)), none, 2⟩, ⟨(some 7), (.bin .lss (.t 4) (.t 6)), none, 2⟩] [])
 (.cond (.t 7)
 .skip
 (.exit 0)))
 (.seq (.block 1 (.seq (.reg [⟨(some 10), (.mov (.t 0)), none, 2⟩, ⟨(some 11), (.mov (.t 3)), none, 2⟩, ⟨(some 12), (.idx (.t 10) (.t 11)), none, 2⟩, ⟨(some 13), (.bin .lss (.t 12) (.c (.u8 33))), none, 2⟩, ⟨(some 14), (.mov (.t 13)), none, 2⟩, ⟨(some 15), (.mov (.t 0)), (some (14, false)), 2⟩, ⟨(some 16), (.mov (.t 3)), (some (14, false)), 2⟩, ⟨(some 17), (.idx (.t 15) (.t 16)), (some (14, false)), 2⟩, ⟨(some 18), (.bin .gtr (.t 17) (.c (.u8 126))), (some (14, false)), 2⟩, ⟨(some 19), (.pick (.t 14) (.c (.bool true)) (.t 18)), none, 2⟩] [])
 (.cond (.t 19)
 (.seq (.reg [⟨(some 2), (.mov (.c (.bool false))), none, 2⟩] [])
 .ret)
 .skip)))
 (.reg [⟨(some 8), (.mov (.t 3)), none, 2⟩, ⟨(some 9), (.bin .add (.t 8) (.c (.int 1))), none, 2⟩, ⟨(some 3), (.mov (.t 9)), none, 2⟩] []))))))
 (.seq (.reg [⟨(some 20), (.mov (.t 0)), none, 2⟩, ⟨(some 21), (.len true (.t 20)), none, 2⟩, ⟨(some 22), (.bin .gtr (.t 21) (.c (.int 0))), none, 2⟩, ⟨(some 23), (.mov (.t 22)), none, 2⟩, ⟨(some 24), (.mov (.t 0)), (some (23, true)), 2⟩, ⟨(some 25), (.len true (.t 24)), (some (23, true)), 2⟩, ⟨(some 26), (.bin .leq (.t 25) (.c (.int 16))), (some (23, true)), 2⟩, ⟨(some 27), (.pick (.t 23) (.t 26) (.c (.bool false))), none, 2⟩, ⟨(some 2), (.mov (.t 27)), none, 2⟩] [])
 .ret)))
theorem o58 : FnOK Try.prog 58 N58 res58 c58 := ⟨_, _, Try.f58.results.toList, [], pures, Try.func58, show _ = some (Try.f58.body.getD .skip) by kernel_rfl, (Array.toArray_toList).symm, by kernel_rfl, by kernel_rfl, by kernel_rfl, by kernel_rfl, follows, callFunc_enter Try.func58 (by kernel_rfl) (by kernel_rfl)⟩
-- sentinel/sentinelref5.small
def N59 : Nat := 6
def keep59 : List Nat := [0, 1, 2]
def res59 : List RV := [(.t 2)]
def c59 : CC :=
 (.seq (.reg [⟨(some 1), (.box (.t 0)), none, 2⟩, ⟨(some 2), (.mov (.c (.bool false))), none, 2⟩] [])
 (.seq (.reg [⟨(some 3), (.load (some 8) (.t 1)), none, 2⟩, ⟨(some 4), (.call (.c (.fn 41 [])) [(.t 3)]), none, 2⟩, ⟨(some 5), (.bin .leq (.t 4) (.c (.int 32))), none, 2⟩, ⟨(some 2), (.mov (.t 5)), none, 2⟩] [])
 .ret))
theorem o59 : FnOK Try.prog 59 N59 res59 c59 := ⟨_, _, Try.f59.results.toList, [], pures, Try.func59, show _ = some (Try.f59.body.getD .skip) by kernel_rfl, (Array.toArray_toList).symm, by kernel_rfl, by kernel_rfl, by kernel_rfl, by kernel_rfl, follows, callFunc_enter Try.func59 (by kernel_rfl) (by kernel_rfl)⟩
-- sentinel/wire.named
def N60 : Nat := 28
def keep60 : List Nat := [0, 2, 3, 11, 13, 14, 15, 26]
def res60 : List RV := [(.t 2)]
def c60 : CC :=
 (.seq (.reg [⟨(some 2), (.mov (.c (.bool false))), none, 2⟩] [])
 (.seq (.seq (.reg [⟨(some 4), (.mov (.t 0)), none, 2⟩, ⟨(some 5), (.len true (.t 4)), none, 2⟩, ⟨(some 6), (.bin .lss (.t 5) (.c (.int 1))), none, 2⟩, ⟨(some 7), (.mov (.t 6)), none, 2⟩, ⟨(some 8), (.mov (.t 0)), (some (7, false)), 2⟩, ⟨(some 9), (.len true (.t 8)), (some (7, false)), 2⟩, ⟨(some 10), (.bin .gtr (.t 9) (.c (.int 16))), (some (7, false)), 2⟩, ⟨(some 11), (.pick (.t 7) (.c (.bool true)) (.t 10)), none, 2⟩] [])
 (.cond (.t 11)
 (.seq (.reg [⟨(some 2), (.mov (.c (.bool false))), none, 2⟩] [])
 .ret)
 .skip))
 (.seq (.seq (.reg [⟨(some 12), (.mov (.t 0)), none, 2⟩, ⟨(some 13), (.len true (.t 12)), none, 2⟩, ⟨(some 14), (.mov (.c (.int 0))), none, 2⟩] [])
 (.block 0 (.loop (.seq (.reg [⟨(some 15), (.bin .lss (.t 14) (.t 13)), none, 2⟩] [])
 (.seq (.cond (.t 15)
 .skip
 (.exit 0))
 (.seq (.block 1 (.seq (.reg [⟨(some 16), (.mov (.t 14)), none, 2⟩, ⟨(some 3), (.mov (.t 16)), none, 2⟩] [])
 (.seq (.reg [⟨(some 17), (.mov (.t 0)), none, 2⟩, ⟨(some 18), (.mov (.t 3)), none, 2⟩, ⟨(some 19), (.idx (.t 17) (.t 18)), none, 2⟩, ⟨(some 20), (.bin .lss (.t 19) (.c (.u8 33))), none, 2⟩, ⟨(some 21), (.mov (.t 20)), none, 2⟩, ⟨(some 22), (.mov (.t 0)), (some (21, false)), 2⟩, ⟨(some 23), (.mov (.t 3)), (some (21, false)), 2⟩, ⟨(some 24), (.idx (.t 22) (.t 23)), (some (21, false)), 2⟩, ⟨(some 25), (.bin .gtr (.t 24) (.c (.u8 126))), (some (21, false)), 2⟩, ⟨(some 26), (.pick (.t 21) (.c (.bool true)) (.t 25)), none, 2⟩] [])
 (.cond (.t 26)
 (.seq (.reg [⟨(some 2), (.mov (.c (.bool false))), none, 2⟩] [])
 .ret)
 .skip))))
 (.reg [⟨(some 27), (.bin .add (.t 14) (.c (.int 1))), none, 2⟩, ⟨(some 14), (.mov (.t 27)), none, 2⟩] [])))))))
 (.seq (.reg [⟨(some 2), (.mov (.c (.bool true))), none, 2⟩] [])
 .ret))))
theorem o60 : FnOK Try.prog 60 N60 res60 c60 := ⟨_, _, Try.f60.results.toList, [], pures, Try.func60, show _ = some (Try.f60.body.getD .skip) by kernel_rfl, (Array.toArray_toList).symm, by kernel_rfl, by kernel_rfl, by kernel_rfl, by kernel_rfl, follows, callFunc_enter Try.func60 (by kernel_rfl) (by kernel_rfl)⟩
-- sentinel/limb.Bits
def N61 : Nat := 19
def keep61 : List Nat := [0, 1, 2, 3, 5, 11]
def res61 : List RV := [(.t 2)]
def c61 : CC :=
 (.seq (.reg [⟨(some 1), (.box (.t 0)), none, 2⟩, ⟨(some 2), (.mov (.c (.int 0))), none, 2⟩] [])
 (.seq (.seq (.reg [⟨(some 3), (.mov (.c (.int 7))), none, 2⟩] [])
 (.block 0 (.loop (.seq (.seq (.reg [⟨(some 4), (.mov (.t 3)), none, 2⟩, ⟨(some 5), (.bin .geq (.t 4) (.c (.int 0))), none, 2⟩] [])
 (.cond (.t 5)
 .skip
 (.exit 0)))
 (.seq (.block 1 (.seq (.reg [⟨(some 8), (.mov (.t 3)), none, 2⟩, ⟨(some 9), (.iadA 8 1 (.t 1) (.t 8)), none, 2⟩, ⟨(some 10), (.load none (.t 9)), none, 2⟩, ⟨(some 11), (.eq true .sc (.t 10) (.c (.u32 0))), none, 2⟩] [])
 (.cond (.t 11)
 (.seq (.reg [⟨(some 12), (.mov (.t 3)), none, 2⟩, ⟨(some 13), (.bin .mul (.c (.int 32)) (.t 12)), none, 2⟩, ⟨(some 14), (.mov (.t 3)), none, 2⟩, ⟨(some 15), (.iadA 8 1 (.t 1) (.t 14)), none, 2⟩, ⟨(some 16), (.load none (.t 15)), none, 2⟩, ⟨(some 17), (.call (.c (.fn 81 [])) [(.t 16)]), none, 2⟩, ⟨(some 18), (.bin .add (.t 13) (.t 17)), none, 2⟩, ⟨(some 2), (.mov (.t 18)), none, 2⟩] [])
 .ret)
 .skip)))
 (.reg [⟨(some 6), (.mov (.t 3)), none, 2⟩, ⟨(some 7), (.bin .sub (.t 6) (.c (.int 1))), none, 2⟩, ⟨(some 3), (.mov (.t 7)), none, 2⟩] []))))))
 (.seq (.reg [⟨(some 2), (.mov (.c (.int 0))), none, 2⟩] [])
 .ret)))
theorem o61 : FnOK Try.prog 61 N61 res61 c61 := ⟨_, _, Try.f61.results.toList, [], pures, Try.func61, show _ = some (Try.f61.body.getD .skip) by kernel_rfl, (Array.toArray_toList).symm, by kernel_rfl, by kernel_rfl, by kernel_rfl, by kernel_rfl, follows, callFunc_enter Try.func61 (by kernel_rfl) (by kernel_rfl)⟩
-- sentinel/wire.at
def N62 : Nat := 14
def keep62 : List Nat := [0, 1, 2, 4, 5]
def res62 : List RV := [(.t 4)]
def c62 : CC :=
 (.seq (.reg [⟨(some 2), (.box (.t 0)), none, 2⟩, ⟨(some 4), (.mov (.c (.sl true 0 0 (.agg []) true))), none, 2⟩] [])
 (.seq (.reg [⟨(some 6), (.load (some 8) (.t 2)), none, 2⟩, ⟨(some 7), (.call (.c (.fn 82 [])) [(.t 6)]), none, 2⟩, ⟨(some 5), (.mov (.t 7)), none, 2⟩] [])
 (.seq (.reg [⟨(some 8), (.mov (.t 5)), none, 2⟩, ⟨(some 9), (.mov (.t 5)), none, 2⟩, ⟨(some 10), (.len false (.t 9)), none, 2⟩, ⟨(some 11), (.mov (.t 1)), none, 2⟩, ⟨(some 12), (.bin .sub (.t 10) (.t 11)), none, 2⟩, ⟨(some 13), (.slcS 1 (.t 8) (some (.t 12)) none none), none, 2⟩, ⟨(some 4), (.mov (.t 13)), none, 2⟩] [])
 .ret)))
theorem o62 : FnOK Try.prog 62 N62 res62 c62 := ⟨_, _, Try.f62.results.toList, [], pures, Try.func62, show _ = some (Try.f62.body.getD .skip) by kernel_rfl, (Array.toArray_toList).symm, by kernel_rfl, by kernel_rfl, by kernel_rfl, by kernel_rfl, follows, callFunc_enter Try.func62 (by kernel_rfl) (by kernel_rfl)⟩
-- sentinel/limb.From
def N63 : Nat := 15
def keep63 : List Nat := [0, 2, 3, 5]
def res63 : List RV := [(.c 2 (some 8))]
def c63 : CC :=
 (.seq (.reg [⟨(some 2), (.alloc (.agg [(.u32 0), (.u32 0), (.u32 0), (.u32 0), (.u32 0), (.u32 0), (.u32 0), (.u32 0)])), none, 2⟩] [])
 (.seq (.reg [⟨(some 3), (.alloc (.agg [(.u32 0), (.u32 0), (.u32 0), (.u32 0), (.u32 0), (.u32 0), (.u32 0), (.u32 0)])), none, 2⟩] [])
 (.seq (.seq (.reg [⟨(some 4), (.mov (.t 0)), none, 2⟩, ⟨(some 5), (.bin .lss (.t 4) (.c (.int 0))), none, 2⟩] [])
 (.cond (.t 5)
 (.seq (.reg [⟨(some 6), (.load (some 8) (.t 3)), none, 2⟩, ⟨none, (.store (some 8) (.t 2) (.t 6)), none, 2⟩] [])
 .ret)
 .skip))
 (.seq (.reg [⟨(some 7), (.mov (.t 0)), none, 2⟩, ⟨(some 8), (.conv .iu32 (.t 7)), none, 2⟩, ⟨(some 9), (.mov (.t 0)), none, 2⟩, ⟨(some 10), (.bin .shr (.t 9) (.c (.u64 32))), none, 2⟩, ⟨(some 11), (.conv .iu32 (.t 10)), none, 2⟩, ⟨(some 12), (.iadA 8 1 (.t 3) (.c (.int 0))), none, 2⟩, ⟨none, (.store none (.t 12) (.t 8)), none, 2⟩, ⟨(some 13), (.iadA 8 1 (.t 3) (.c (.int 1))), none, 2⟩, ⟨none, (.store none (.t 13) (.t 11)), none, 2⟩] [])
 (.seq (.reg [⟨(some 14), (.load (some 8) (.t 3)), none, 2⟩, ⟨none, (.store (some 8) (.t 2) (.t 14)), none, 2⟩] [])
 .ret)))))
theorem o63 : FnOK Try.prog 63 N63 res63 c63 := ⟨_, _, Try.f63.results.toList, [], pures, Try.func63, show _ = some (Try.f63.body.getD .skip) by kernel_rfl, (Array.toArray_toList).symm, by kernel_rfl, by kernel_rfl, by kernel_rfl, by kernel_rfl, follows, callFunc_enter Try.func63 (by kernel_rfl) (by kernel_rfl)⟩
-- bytes.Clone
def N64 : Nat := 8
def keep64 : List Nat := [0, 2, 4]
def res64 : List RV := [(.t 2)]
def c64 : CC :=
 (.seq (.reg [⟨(some 2), (.mov (.c (.sl true 0 0 (.agg []) true))), none, 2⟩] [])
 (.seq (.seq (.reg [⟨(some 3), (.mov (.t 0)), none, 2⟩, ⟨(some 4), (.eq false .slice (.t 3) (.c (.sl true 0 0 (.agg []) true))), none, 2⟩] [])
 (.cond (.t 4)
 (.seq (.reg [⟨(some 2), (.mov (.c (.sl true 0 0 (.agg []) true))), none, 2⟩] [])
 .ret)
 .skip))
 (.seq (.reg [⟨(some 5), (.bsl false .u8 1 0 [(.u8 0)] []), none, 2⟩, ⟨(some 6), (.mov (.t 0)), none, 2⟩, ⟨(some 7), (.app true 1 1 (.t 5) (.t 6)), none, 2⟩, ⟨(some 2), (.mov (.t 7)), none, 2⟩] [])
 .ret)))
theorem o64 : FnOK Try.prog 64 N64 res64 c64 := ⟨_, _, Try.f64.results.toList, [], pures, Try.func64, show _ = some (Try.f64.body.getD .skip) by kernel_rfl, (Array.toArray_toList).symm, by kernel_rfl, by kernel_rfl, by kernel_rfl, by kernel_rfl, follows, callFunc_enter Try.func64 (by kernel_rfl) (by kernel_rfl)⟩
-- sentinel/sentinelref5.Four
def N65 : Nat := 6
def keep65 : List Nat := [0, 1, 2]
def res65 : List RV := [(.t 2)]
def c65 : CC :=
 (.seq (.reg [⟨(some 1), (.box (.t 0)), none, 2⟩, ⟨(some 2), (.mov (.c (.sl true 0 0 (.agg []) true))), none, 2⟩] [])
 (.seq (.reg [⟨(some 3), (.load (some 8) (.t 1)), none, 2⟩, ⟨(some 4), (.call (.c (.fn 83 [])) [(.t 3)]), none, 2⟩, ⟨(some 5), (.slcS 1 (.t 4) (some (.c (.int 28))) none none), none, 2⟩, ⟨(some 2), (.mov (.t 5)), none, 2⟩] [])
 .ret))
theorem o65 : FnOK Try.prog 65 N65 res65 c65 := ⟨_, _, Try.f65.results.toList, [], pures, Try.func65, show _ = some (Try.f65.body.getD .skip) by kernel_rfl, (Array.toArray_toList).symm, by kernel_rfl, by kernel_rfl, by kernel_rfl, by kernel_rfl, follows, callFunc_enter Try.func65 (by kernel_rfl) (by kernel_rfl)⟩
-- sentinel/sentinelref5.eight
def N66 : Nat := 20
def keep66 : List Nat := [0, 2, 3, 4, 6]
def res66 : List RV := [(.t 2)]
def c66 : CC :=
 (.seq (.reg [⟨(some 2), (.mov (.c (.sl true 0 0 (.agg []) true))), none, 2⟩] [])
 (.seq (.reg [⟨(some 3), (.mov (.c (.sl true 0 0 (.agg []) true))), none, 2⟩] [])
 (.seq (.seq (.reg [⟨(some 4), (.mov (.c (.int 0))), none, 2⟩] [])
 (.block 0 (.loop (.seq (.seq (.reg [⟨(some 5), (.mov (.t 4)), none, 2⟩, ⟨(some 6), (.bin .lss (.t 5) (.c (.int 8))), none, 2⟩] [])
 (.cond (.t 6)
 .skip
 (.exit 0)))
 (.seq (.block 1 (.reg [⟨(some 9), (.mov (.t 3)), none, 2⟩, ⟨(some 10), (.mov (.t 0)), none, 2⟩, ⟨(some 11), (.mov (.t 4)), none, 2⟩, ⟨(some 12), (.bin .mul (.c (.int 8)) (.t 11)), none, 2⟩, ⟨(some 13), (.bin .sub (.c (.int 56)) (.t 12)), none, 2⟩, ⟨(some 14), (.conv .iu64 (.t 13)), none, 2⟩, ⟨(some 15), (.bin .shr (.t 10) (.t 14)), none, 2⟩, ⟨(some 16), (.conv .iu8 (.t 15)), none, 2⟩, ⟨(some 17), (.bsl false .u8 1 1 [(.u8 0)] [(0, (1, (.t 16)))]), none, 2⟩, ⟨(some 18), (.app true 1 1 (.t 9) (.t 17)), none, 2⟩, ⟨(some 3), (.mov (.t 18)), none, 2⟩] []))
 (.reg [⟨(some 7), (.mov (.t 4)), none, 2⟩, ⟨(some 8), (.bin .add (.t 7) (.c (.int 1))), none, 2⟩, ⟨(some 4), (.mov (.t 8)), none, 2⟩] []))))))
 (.seq (.reg [⟨(some 19), (.mov (.t 3)), none, 2⟩, ⟨(some 2), (.mov (.t 19)), none, 2⟩] [])
 .ret))))
theorem o66 : FnOK Try.prog 66 N66 res66 c66 := ⟨_, _, Try.f66.results.toList, [], pures, Try.func66, show _ = some (Try.f66.body.getD .skip) by kernel_rfl, (Array.toArray_toList).symm, by kernel_rfl, by kernel_rfl, by kernel_rfl, by kernel_rfl, follows, callFunc_enter Try.func66 (by kernel_rfl) (by kernel_rfl)⟩
-- (*sentinel/wire.reader).num
def N67 : Nat := 15
def keep67 : List Nat := [0, 1, 4, 5]
def res67 : List RV := [(.c 4 (some 8))]
def c67 : CC :=
 (.seq (.reg [⟨(some 4), (.alloc (.agg [(.u32 0), (.u32 0), (.u32 0), (.u32 0), (.u32 0), (.u32 0), (.u32 0), (.u32 0)])), none, 2⟩] [])
 (.seq (.reg [⟨(some 8), (.mov (.t 0)), none, 2⟩, ⟨(some 9), (.mov (.t 1)), none, 2⟩, ⟨(some 10), (.call (.c (.fn 51 [])) [(.t 8), (.t 9)]), none, 2⟩, ⟨(some 11), (.call (.c (.fn 84 [])) [(.t 10)]), none, 2⟩, ⟨(some 7), (.mov (.t 11)), none, 2⟩, ⟨(some 12), (.ext (.t 7) 0), none, 2⟩, ⟨(some 13), (.ext (.t 7) 1), none, 2⟩, ⟨(some 5), (.alloc (.agg [(.u32 0), (.u32 0), (.u32 0), (.u32 0), (.u32 0), (.u32 0), (.u32 0), (.u32 0)])), none, 2⟩, ⟨none, (.store (some 8) (.t 5) (.t 12)), none, 2⟩, ⟨(some 6), (.mov (.t 13)), none, 2⟩] [])
 (.seq (.reg [⟨(some 14), (.load (some 8) (.t 5)), none, 2⟩, ⟨none, (.store (some 8) (.t 4) (.t 14)), none, 2⟩] [])
 .ret)))
theorem o67 : FnOK Try.prog 67 N67 res67 c67 := ⟨_, _, Try.f67.results.toList, [], pures, Try.func67, show _ = some (Try.f67.body.getD .skip) by kernel_rfl, (Array.toArray_toList).symm, by kernel_rfl, by kernel_rfl, by kernel_rfl, by kernel_rfl, follows, callFunc_enter Try.func67 (by kernel_rfl) (by kernel_rfl)⟩
-- sentinel/sentinelref5.number
def N68 : Nat := 24
def keep68 : List Nat := [0, 2, 3, 4, 12]
def res68 : List RV := [(.t 2)]
def c68 : CC :=
 (.seq (.reg [⟨(some 2), (.mov (.c (.int 0))), none, 2⟩] [])
 (.seq (.reg [⟨(some 3), (.mov (.c (.int 0))), none, 2⟩] [])
 (.seq (.seq (.reg [⟨(some 4), (.mov (.c (.int 0))), none, 2⟩] [])
 (.block 0 (.loop (.seq (.seq (.reg [⟨(some 5), (.mov (.t 4)), none, 2⟩, ⟨(some 6), (.mov (.t 0)), none, 2⟩, ⟨(some 7), (.len false (.t 6)), none, 2⟩, ⟨(some 8), (.bin .lss (.t 5) (.t 7)), none, 2⟩, ⟨(some 9), (.mov (.t 8)), none, 2⟩, ⟨(some 10), (.mov (.t 4)), (some (9, true)), 2⟩, ⟨(some 11), (.bin .lss (.t 10) (.c (.int 8))), (some (9, true)), 2⟩, ⟨(some 12), (.pick (.t 9) (.t 11) (.c (.bool false))), none, 2⟩] [])
 (.cond (.t 12)
 .skip
 (.exit 0)))
 (.seq (.block 1 (.reg [⟨(some 15), (.mov (.t 3)), none, 2⟩, ⟨(some 16), (.bin .shl (.t 15) (.c (.u64 8))), none, 2⟩, ⟨(some 17), (.mov (.t 0)), none, 2⟩, ⟨(some 18), (.mov (.t 4)), none, 2⟩, ⟨(some 19), (.iadS 1 (.t 17) (.t 18)), none, 2⟩, ⟨(some 20), (.load none (.t 19)), none, 2⟩, ⟨(some 21), (.conv .u8i (.t 20)), none, 2⟩, ⟨(some 22), (.bin .or (.t 16) (.t 21)), none, 2⟩, ⟨(some 3), (.mov (.t 22)), none, 2⟩] []))
 (.reg [⟨(some 13), (.mov (.t 4)), none, 2⟩, ⟨(some 14), (.bin .add (.t 13) (.c (.int 1))), none, 2⟩, ⟨(some 4), (.mov (.t 14)), none, 2⟩] []))))))
 (.seq (.reg [⟨(some 23), (.mov (.t 3)), none, 2⟩, ⟨(some 2), (.mov (.t 23)), none, 2⟩] [])
 .ret))))
theorem o68 : FnOK Try.prog 68 N68 res68 c68 := ⟨_, _, Try.f68.results.toList, [], pures, Try.func68, show _ = some (Try.f68.body.getD .skip) by kernel_rfl, (Array.toArray_toList).symm, by kernel_rfl, by kernel_rfl, by kernel_rfl, by kernel_rfl, follows, callFunc_enter Try.func68 (by kernel_rfl) (by kernel_rfl)⟩
-- (*sentinel/sentinelref5.reader).take
def N69 : Nat := 39
def keep69 : List Nat := [0, 1, 4, 5, 12]
def res69 : List RV := [(.t 4)]
def c69 : CC :=
 (.seq (.reg [⟨(some 4), (.mov (.c (.sl true 0 0 (.agg []) true))), none, 2⟩] [])
 (.seq (.seq (.reg [⟨(some 6), (.mov (.t 1)), none, 2⟩, ⟨(some 7), (.mov (.t 0)), none, 2⟩, ⟨(some 8), (.nilck (.t 7)), none, 2⟩, ⟨(some 9), (.fad 0 (.t 8)), none, 2⟩, ⟨(some 10), (.load none (.t 9)), none, 2⟩, ⟨(some 11), (.len false (.t 10)), none, 2⟩, ⟨(some 12), (.bin .gtr (.t 6) (.t 11)), none, 2⟩] [])
 (.cond (.t 12)
 (.seq (.reg [⟨(some 13), (.mov (.t 0)), none, 2⟩, ⟨(some 14), (.mov (.t 0)), none, 2⟩, ⟨(some 15), (.nilck (.t 13)), none, 2⟩, ⟨(some 16), (.fad 1 (.t 15)), none, 2⟩, ⟨none, (.store none (.t 16) (.c (.bool true))), none, 2⟩, ⟨(some 17), (.nilck (.t 14)), none, 2⟩, ⟨(some 18), (.fad 0 (.t 17)), none, 2⟩, ⟨none, (.store none (.t 18) (.c (.sl true 0 0 (.agg []) true))), none, 2⟩] [])
 (.seq (.reg [⟨(some 19), (.mov (.t 1)), none, 2⟩, ⟨(some 20), (.mksl .u8 1 1 [(.u8 0)] (.t 19) (.t 19)), none, 2⟩, ⟨(some 4), (.mov (.t 20)), none, 2⟩] [])
 .ret))
 .skip))
 (.seq (.reg [⟨(some 21), (.bsl false .u8 1 0 [(.u8 0)] []), none, 2⟩, ⟨(some 22), (.mov (.t 0)), none, 2⟩, ⟨(some 23), (.nilck (.t 22)), none, 2⟩, ⟨(some 24), (.fad 0 (.t 23)), none, 2⟩, ⟨(some 25), (.load none (.t 24)), none, 2⟩, ⟨(some 26), (.mov (.t 1)), none, 2⟩, ⟨(some 27), (.slcS 1 (.t 25) none (some (.t 26)) none), none, 2⟩, ⟨(some 28), (.app true 1 1 (.t 21) (.t 27)), none, 2⟩, ⟨(some 5), (.mov (.t 28)), none, 2⟩] [])
 (.seq (.reg [⟨(some 29), (.mov (.t 0)), none, 2⟩, ⟨(some 30), (.mov (.t 0)), none, 2⟩, ⟨(some 31), (.nilck (.t 30)), none, 2⟩, ⟨(some 32), (.fad 0 (.t 31)), none, 2⟩, ⟨(some 33), (.load none (.t 32)), none, 2⟩, ⟨(some 34), (.mov (.t 1)), none, 2⟩, ⟨(some 35), (.slcS 1 (.t 33) (some (.t 34)) none none), none, 2⟩, ⟨(some 36), (.nilck (.t 29)), none, 2⟩, ⟨(some 37), (.fad 0 (.t 36)), none, 2⟩, ⟨none, (.store none (.t 37) (.t 35)), none, 2⟩] [])
 (.seq (.reg [⟨(some 38), (.mov (.t 5)), none, 2⟩, ⟨(some 4), (.mov (.t 38)), none, 2⟩] [])
 .ret)))))
theorem o69 : FnOK Try.prog 69 N69 res69 c69 := ⟨_, _, Try.f69.results.toList, [], pures, Try.func69, show _ = some (Try.f69.body.getD .skip) by kernel_rfl, (Array.toArray_toList).symm, by kernel_rfl, by kernel_rfl, by kernel_rfl, by kernel_rfl, follows, callFunc_enter Try.func69 (by kernel_rfl) (by kernel_rfl)⟩
-- sentinel/sentinelref1.Read
def N70 : Nat := 41
def keep70 : List Nat := [0, 2, 3, 4, 5, 6, 9, 14]
def res70 : List RV := [(.c 2 (some 8)), (.t 3)]
def c70 : CC :=
 (.seq (.reg [⟨(some 2), (.alloc (.agg [(.u32 0), (.u32 0), (.u32 0), (.u32 0), (.u32 0), (.u32 0), (.u32 0), (.u32 0)])), none, 2⟩, ⟨(some 3), (.mov (.c (.bool false))), none, 2⟩] [])
 (.seq (.reg [⟨(some 4), (.alloc (.agg [(.u32 0), (.u32 0), (.u32 0), (.u32 0), (.u32 0), (.u32 0), (.u32 0), (.u32 0)])), none, 2⟩] [])
 (.seq (.seq (.reg [⟨(some 7), (.mov (.t 0)), none, 2⟩, ⟨(some 8), (.len false (.t 7)), none, 2⟩, ⟨(some 9), (.bin .gtr (.t 8) (.c (.int 32))), none, 2⟩] [])
 (.cond (.t 9)
 (.seq (.reg [⟨(some 10), (.load (some 8) (.t 4)), none, 2⟩, ⟨none, (.store (some 8) (.t 2) (.t 10)), none, 2⟩, ⟨(some 3), (.mov (.c (.bool false))), none, 2⟩] [])
 .ret)
 .skip))
 (.seq (.seq (.reg [⟨(some 5), (.mov (.c (.int 0))), none, 2⟩] [])
 (.block 0 (.loop (.seq (.seq (.reg [⟨(some 11), (.mov (.t 5)), none, 2⟩, ⟨(some 12), (.mov (.t 0)), none, 2⟩, ⟨(some 13), (.len false (.t 12)), none, 2⟩, ⟨(some 14), (.bin .lss (.t 11) (.t 13)), none, 2⟩] [])
 (.cond (.t 14)
 .skip
 (.exit 0)))
 (.seq (.block 1 (.seq (.reg [⟨(some 17), (.mov (.t 0)), none, 2⟩, ⟨(some 18), (.len false (.t 17)), none, 2⟩, ⟨(some 19), (.bin .sub (.t 18) (.c (.int 1))), none, 2⟩, ⟨(some 20), (.mov (.t 5)), none, 2⟩, ⟨(some 21), (.bin .sub (.t 19) (.t 20)), none, 2⟩, ⟨(some 6), (.mov (.t 21)), none, 2⟩] [])
 (.reg [⟨(some 22), (.mov (.t 6)), none, 0⟩, ⟨(some 23), (.bin .quo (.t 22) (.c (.int 4))), none, 0⟩, ⟨(some 24), (.mov (.t 6)), none, 0⟩, ⟨(some 25), (.bin .quo (.t 24) (.c (.int 4))), none, 0⟩, ⟨(some 26), (.iadA 8 1 (.t 4) (.t 25)), none, 0⟩, ⟨(some 27), (.load none (.t 26)), none, 1⟩, ⟨(some 28), (.mov (.t 0)), none, 0⟩, ⟨(some 29), (.mov (.t 5)), none, 0⟩, ⟨(some 30), (.iadS 1 (.t 28) (.t 29)), none, 1⟩, ⟨(some 31), (.load none (.t 30)), none, 1⟩, ⟨(some 32), (.conv .u8u32 (.t 31)), none, 0⟩, ⟨(some 33), (.mov (.t 6)), none, 0⟩, ⟨(some 34), (.bin .rem (.t 33) (.c (.int 4))), none, 0⟩, ⟨(some 35), (.bin .mul (.c (.int 8)) (.t 34)), none, 0⟩, ⟨(some 36), (.conv .iu64 (.t 35)), none, 0⟩, ⟨(some 37), (.bin .shl (.t 32) (.t 36)), none, 0⟩, ⟨(some 38), (.bin .or (.t 27) (.t 37)), none, 0⟩, ⟨(some 39), (.iadA 8 1 (.t 4) (.t 23)), none, 0⟩, ⟨none, (.store none (.t 39) (.t 38)), none, 2⟩] [])))
 (.reg [⟨(some 15), (.mov (.t 5)), none, 2⟩, ⟨(some 16), (.bin .add (.t 15) (.c (.int 1))), none, 2⟩, ⟨(some 5), (.mov (.t 16)), none, 2⟩] []))))))
 (.seq (.reg [⟨(some 40), (.load (some 8) (.t 4)), none, 2⟩, ⟨none, (.store (some 8) (.t 2) (.t 40)), none, 2⟩, ⟨(some 3), (.mov (.c (.bool true))), none, 2⟩] [])
 .ret)))))
theorem o70 : FnOK Try.prog 70 N70 res70 c70 := ⟨_, _, Try.f70.results.toList, [], pures, Try.func70, show _ = some (Try.f70.body.getD .skip) by kernel_rfl, (Array.toArray_toList).symm, by kernel_rfl, by kernel_rfl, by kernel_rfl, by kernel_rfl, follows, callFunc_enter Try.func70 (by kernel_rfl) (by kernel_rfl)⟩
-- sentinel/sentinellaw1.within
def N71 : Nat := 15
def keep71 : List Nat := [0, 1, 4, 5, 10]
def res71 : List RV := [(.t 4)]
def c71 : CC :=
 (.seq (.reg [⟨(some 4), (.mov (.c (.int 0))), none, 2⟩] [])
 (.seq (.reg [⟨(some 6), (.mov (.t 0)), none, 2⟩, ⟨(some 7), (.mov (.t 1)), none, 2⟩, ⟨(some 8), (.bin .rem (.t 6) (.t 7)), none, 2⟩, ⟨(some 5), (.mov (.t 8)), none, 2⟩] [])
 (.seq (.seq (.reg [⟨(some 9), (.mov (.t 5)), none, 2⟩, ⟨(some 10), (.bin .lss (.t 9) (.c (.int 0))), none, 2⟩] [])
 (.cond (.t 10)
 (.reg [⟨(some 11), (.mov (.t 5)), none, 2⟩, ⟨(some 12), (.mov (.t 1)), none, 2⟩, ⟨(some 13), (.bin .add (.t 11) (.t 12)), none, 2⟩, ⟨(some 5), (.mov (.t 13)), none, 2⟩] [])
 .skip))
 (.seq (.reg [⟨(some 14), (.mov (.t 5)), none, 2⟩, ⟨(some 4), (.mov (.t 14)), none, 2⟩] [])
 .ret))))
theorem o71 : FnOK Try.prog 71 N71 res71 c71 := ⟨_, _, Try.f71.results.toList, [], pures, Try.func71, show _ = some (Try.f71.body.getD .skip) by kernel_rfl, (Array.toArray_toList).symm, by kernel_rfl, by kernel_rfl, by kernel_rfl, by kernel_rfl, follows, callFunc_enter Try.func71 (by kernel_rfl) (by kernel_rfl)⟩
-- sentinel/sentinelref1.bit
def N72 : Nat := 14
def keep72 : List Nat := [0, 1, 2, 4]
def res72 : List RV := [(.t 4)]
def c72 : CC :=
 (.seq (.reg [⟨(some 2), (.box (.t 0)), none, 2⟩, ⟨(some 4), (.mov (.c (.u32 0))), none, 2⟩] [])
 (.seq (.reg [⟨(some 5), (.mov (.t 1)), none, 2⟩, ⟨(some 6), (.bin .quo (.t 5) (.c (.int 32))), none, 2⟩, ⟨(some 7), (.iadA 8 1 (.t 2) (.t 6)), none, 2⟩, ⟨(some 8), (.load none (.t 7)), none, 2⟩, ⟨(some 9), (.mov (.t 1)), none, 2⟩, ⟨(some 10), (.bin .rem (.t 9) (.c (.int 32))), none, 2⟩, ⟨(some 11), (.conv .iu64 (.t 10)), none, 2⟩, ⟨(some 12), (.bin .shr (.t 8) (.t 11)), none, 2⟩, ⟨(some 13), (.bin .and (.t 12) (.c (.u32 1))), none, 2⟩, ⟨(some 4), (.mov (.t 13)), none, 2⟩] [])
 .ret))
theorem o72 : FnOK Try.prog 72 N72 res72 c72 := ⟨_, _, Try.f72.results.toList, [], pures, Try.func72, show _ = some (Try.f72.body.getD .skip) by kernel_rfl, (Array.toArray_toList).symm, by kernel_rfl, by kernel_rfl, by kernel_rfl, by kernel_rfl, follows, callFunc_enter Try.func72 (by kernel_rfl) (by kernel_rfl)⟩
-- sentinel/wire.whole
def N73 : Nat := 11
def keep73 : List Nat := [0, 1, 4, 6]
def res73 : List RV := [(.t 4)]
def c73 : CC :=
 (.seq (.reg [⟨(some 4), (.mov (.c (.sl true 0 0 (.agg []) true))), none, 2⟩] [])
 (.seq (.seq (.reg [⟨(some 5), (.mov (.t 0)), none, 2⟩, ⟨(some 6), (.eq false .sc (.t 5) (.c (.int 0))), none, 2⟩] [])
 (.cond (.t 6)
 (.seq (.reg [⟨(some 4), (.mov (.c (.sl true 0 0 (.agg []) true))), none, 2⟩] [])
 .ret)
 .skip))
 (.seq (.reg [⟨(some 7), (.mov (.t 0)), none, 2⟩, ⟨(some 8), (.call (.c (.fn 63 [])) [(.t 7)]), none, 2⟩, ⟨(some 9), (.mov (.t 1)), none, 2⟩, ⟨(some 10), (.call (.c (.fn 62 [])) [(.t 8), (.t 9)]), none, 2⟩, ⟨(some 4), (.mov (.t 10)), none, 2⟩] [])
 .ret)))
theorem o73 : FnOK Try.prog 73 N73 res73 c73 := ⟨_, _, Try.f73.results.toList, [], pures, Try.func73, show _ = some (Try.f73.body.getD .skip) by kernel_rfl, (Array.toArray_toList).symm, by kernel_rfl, by kernel_rfl, by kernel_rfl, by kernel_rfl, follows, callFunc_enter Try.func73 (by kernel_rfl) (by kernel_rfl)⟩
-- sentinel/wire.some[string]
def N74 : Nat := 15
def keep74 : List Nat := [0, 1, 2, 6]
def res74 : List RV := [(.c 6 (some 3))]
def c74 : CC :=
 (.seq (.reg [⟨(some 6), (.alloc (.agg [(.int 0), (.sl true 0 0 (.agg []) true), (.bool false)])), none, 2⟩] [])
 (.seq (.reg [⟨(some 7), (.mov (.t 0)), none, 2⟩, ⟨(some 8), (.mov (.t 1)), none, 2⟩, ⟨(some 9), (.conv (.strb false) (.t 8)), none, 2⟩, ⟨(some 10), (.mov (.t 1)), none, 2⟩, ⟨(some 11), (.len true (.t 10)), none, 2⟩, ⟨(some 12), (.mov (.t 2)), none, 2⟩, ⟨(some 13), (.bin .leq (.t 11) (.t 12)), none, 2⟩, ⟨(some 14), (.build [(.int 0), (.sl true 0 0 (.agg []) true), (.bool false)] [(0, (1, (.t 7))), (1, (1, (.t 9))), (2, (1, (.t 13)))]), none, 2⟩, ⟨none, (.store (some 3) (.t 6) (.t 14)), none, 2⟩] [])
 .ret))
theorem o74 : FnOK Try.prog 74 N74 res74 c74 := ⟨_, _, Try.f74.results.toList, [], pures, Try.func74, show _ = some (Try.f74.body.getD .skip) by kernel_rfl, (Array.toArray_toList).symm, by kernel_rfl, by kernel_rfl, by kernel_rfl, by kernel_rfl, follows, callFunc_enter Try.func74 (by kernel_rfl) (by kernel_rfl)⟩
-- sentinel/wire.four
def N75 : Nat := 17
def keep75 : List Nat := [0, 1, 3, 4, 5, 10]
def res75 : List RV := [(.c 4 (some 3))]
def c75 : CC :=
 (.seq (.reg [⟨(some 3), (.box (.t 1)), none, 2⟩, ⟨(some 4), (.alloc (.agg [(.int 0), (.sl true 0 0 (.agg []) true), (.bool false)])), none, 2⟩] [])
 (.seq (.reg [⟨(some 6), (.load (some 8) (.t 3)), none, 2⟩, ⟨(some 7), (.call (.c (.fn 62 [])) [(.t 6), (.c (.int 4))]), none, 2⟩, ⟨(some 5), (.mov (.t 7)), none, 2⟩] [])
 (.seq (.seq (.reg [⟨(some 8), (.load (some 8) (.t 3)), none, 2⟩, ⟨(some 9), (.build [(.u32 0), (.u32 0), (.u32 0), (.u32 0), (.u32 0), (.u32 0), (.u32 0), (.u32 0)] []), none, 2⟩, ⟨(some 10), (.eq false (.arr 8) (.t 8) (.t 9)), none, 2⟩] [])
 (.cond (.t 10)
 (.reg [⟨(some 5), (.mov (.c (.sl true 0 0 (.agg []) true))), none, 2⟩] [])
 .skip))
 (.seq (.reg [⟨(some 11), (.mov (.t 0)), none, 2⟩, ⟨(some 12), (.mov (.t 5)), none, 2⟩, ⟨(some 13), (.load (some 8) (.t 3)), none, 2⟩, ⟨(some 14), (.call (.c (.fn 61 [])) [(.t 13)]), none, 2⟩, ⟨(some 15), (.bin .leq (.t 14) (.c (.int 32))), none, 2⟩, ⟨(some 16), (.build [(.int 0), (.sl true 0 0 (.agg []) true), (.bool false)] [(0, (1, (.t 11))), (1, (1, (.t 12))), (2, (1, (.t 15)))]), none, 2⟩, ⟨none, (.store (some 3) (.t 4) (.t 16)), none, 2⟩] [])
 .ret))))
theorem o75 : FnOK Try.prog 75 N75 res75 c75 := ⟨_, _, Try.f75.results.toList, [], pures, Try.func75, show _ = some (Try.f75.body.getD .skip) by kernel_rfl, (Array.toArray_toList).symm, by kernel_rfl, by kernel_rfl, by kernel_rfl, by kernel_rfl, follows, callFunc_enter Try.func75 (by kernel_rfl) (by kernel_rfl)⟩
-- sentinel/wire.some[[]byte]
def N76 : Nat := 14
def keep76 : List Nat := [0, 1, 2, 6]
def res76 : List RV := [(.c 6 (some 3))]
def c76 : CC :=
 (.seq (.reg [⟨(some 6), (.alloc (.agg [(.int 0), (.sl true 0 0 (.agg []) true), (.bool false)])), none, 2⟩] [])
 (.seq (.reg [⟨(some 7), (.mov (.t 0)), none, 2⟩, ⟨(some 8), (.mov (.t 1)), none, 2⟩, ⟨(some 9), (.mov (.t 1)), none, 2⟩, ⟨(some 10), (.len false (.t 9)), none, 2⟩, ⟨(some 11), (.mov (.t 2)), none, 2⟩, ⟨(some 12), (.bin .leq (.t 10) (.t 11)), none, 2⟩, ⟨(some 13), (.build [(.int 0), (.sl true 0 0 (.agg []) true), (.bool false)] [(0, (1, (.t 7))), (1, (1, (.t 8))), (2, (1, (.t 12)))]), none, 2⟩, ⟨none, (.store (some 3) (.t 6) (.t 13)), none, 2⟩] [])
 .ret))
theorem o76 : FnOK Try.prog 76 N76 res76 c76 := ⟨_, _, Try.f76.results.toList, [], pures, Try.func76, show _ = some (Try.f76.body.getD .skip) by kernel_rfl, (Array.toArray_toList).symm, by kernel_rfl, by kernel_rfl, by kernel_rfl, by kernel_rfl, follows, callFunc_enter Try.func76 (by kernel_rfl) (by kernel_rfl)⟩
-- slices.Values[[]sentinel/wire.field,sentinel/wire.field]
def N77 : Nat := 4
def keep77 : List Nat := [0, 1, 2]
def res77 : List RV := [(.t 2)]
def c77 : CC :=
 (.seq (.reg [⟨(some 1), (.box (.t 0)), none, 2⟩, ⟨(some 2), (.mov (.c .nilf)), none, 2⟩] [])
 (.seq (.reg [⟨(some 3), (.mkf 85 [(.t 1)]), none, 2⟩, ⟨(some 2), (.mov (.t 3)), none, 2⟩] [])
 .ret))
theorem o77 : FnOK Try.prog 77 N77 res77 c77 := ⟨_, _, Try.f77.results.toList, [], pures, Try.func77, show _ = some (Try.f77.body.getD .skip) by kernel_rfl, (Array.toArray_toList).symm, by kernel_rfl, by kernel_rfl, by kernel_rfl, by kernel_rfl, follows, callFunc_enter Try.func77 (by kernel_rfl) (by kernel_rfl)⟩
-- slices.Grow[[]byte,byte]
def N78 : Nat := 27
def keep78 : List Nat := [0, 1, 4, 6, 16]
def res78 : List RV := [(.t 4)]
def c78 : CC :=
 (.seq (.reg [⟨(some 4), (.mov (.c (.sl true 0 0 (.agg []) true))), none, 2⟩] [])
 (.seq (.seq (.reg [⟨(some 5), (.mov (.t 1)), none, 2⟩, ⟨(some 6), (.bin .lss (.t 5) (.c (.int 0))), none, 2⟩] [])
 (.cond (.t 6)
 (.reg [⟨(some 7), (.mki 9 (.c (.str [99, 97, 110, 110, 111, 116, 32, 98, 101, 32, 110, 101, 103, 97, 116, 105, 118, 101]))), none, 2⟩, ⟨none, .bad, none, 2⟩] [])
 .skip))
 (.seq (.seq (.reg [⟨(some 8), (.mov (.t 1)), none, 2⟩, ⟨(some 9), (.mov (.t 0)), none, 2⟩, ⟨(some 10), (.cap (.t 9)), none, 2⟩, ⟨(some 11), (.mov (.t 0)), none, 2⟩, ⟨(some 12), (.len false (.t 11)), none, 2⟩, ⟨(some 13), (.bin .sub (.t 10) (.t 12)), none, 2⟩, ⟨(some 14), (.bin .sub (.t 8) (.t 13)), none, 2⟩, ⟨(some 1), (.mov (.t 14)), none, 2⟩] [])
 (.seq (.reg [⟨(some 15), (.mov (.t 1)), none, 2⟩, ⟨(some 16), (.bin .gtr (.t 15) (.c (.int 0))), none, 2⟩] [])
 (.cond (.t 16)
 (.reg [⟨(some 17), (.mov (.t 0)), none, 2⟩, ⟨(some 18), (.mov (.t 0)), none, 2⟩, ⟨(some 19), (.cap (.t 18)), none, 2⟩, ⟨(some 20), (.slcS 1 (.t 17) none (some (.t 19)) none), none, 2⟩, ⟨(some 21), (.mov (.t 1)), none, 2⟩, ⟨(some 22), .bad, none, 2⟩, ⟨(some 23), (.mov (.t 0)), none, 2⟩, ⟨(some 24), (.len false (.t 23)), none, 2⟩, ⟨(some 25), (.slcS 1 (.t 22) none (some (.t 24)) none), none, 2⟩, ⟨(some 0), (.mov (.t 25)), none, 2⟩] [])
 .skip)))
 (.seq (.reg [⟨(some 26), (.mov (.t 0)), none, 2⟩, ⟨(some 4), (.mov (.t 26)), none, 2⟩] [])
 .ret))))
theorem o78 : FnOK Try.prog 78 N78 res78 c78 := ⟨_, _, Try.f78.results.toList, [], pures, Try.func78, show _ = some (Try.f78.body.getD .skip) by kernel_rfl, (Array.toArray_toList).symm, by kernel_rfl, by kernel_rfl, by kernel_rfl, by kernel_rfl, follows, callFunc_enter Try.func78 (by kernel_rfl) (by kernel_rfl)⟩
-- slices.Index[[]int,int]
def N79 : Nat := 19
def keep79 : List Nat := [0, 1, 4, 5, 7, 8, 9, 16]
def res79 : List RV := [(.t 4)]
def c79 : CC :=
 (.seq (.reg [⟨(some 4), (.mov (.c (.int 0))), none, 2⟩] [])
 (.seq (.seq (.reg [⟨(some 6), (.mov (.t 0)), none, 2⟩, ⟨(some 7), (.len false (.t 6)), none, 2⟩, ⟨(some 8), (.mov (.c (.int 0))), none, 2⟩] [])
 (.block 0 (.loop (.seq (.reg [⟨(some 9), (.bin .lss (.t 8) (.t 7)), none, 2⟩] [])
 (.seq (.cond (.t 9)
 .skip
 (.exit 0))
 (.seq (.block 1 (.seq (.reg [⟨(some 10), (.mov (.t 8)), none, 2⟩, ⟨(some 5), (.mov (.t 10)), none, 2⟩] [])
 (.seq (.reg [⟨(some 11), (.mov (.t 1)), none, 2⟩, ⟨(some 12), (.mov (.t 0)), none, 2⟩, ⟨(some 13), (.mov (.t 5)), none, 2⟩, ⟨(some 14), (.iadS 1 (.t 12) (.t 13)), none, 2⟩, ⟨(some 15), (.load none (.t 14)), none, 2⟩, ⟨(some 16), (.eq false .sc (.t 11) (.t 15)), none, 2⟩] [])
 (.cond (.t 16)
 (.seq (.reg [⟨(some 17), (.mov (.t 5)), none, 2⟩, ⟨(some 4), (.mov (.t 17)), none, 2⟩] [])
 .ret)
 .skip))))
 (.reg [⟨(some 18), (.bin .add (.t 8) (.c (.int 1))), none, 2⟩, ⟨(some 8), (.mov (.t 18)), none, 2⟩] [])))))))
 (.seq (.reg [⟨(some 4), (.mov (.c (.int (-1)))), none, 2⟩] [])
 .ret)))
theorem o79 : FnOK Try.prog 79 N79 res79 c79 := ⟨_, _, Try.f79.results.toList, [], pures, Try.func79, show _ = some (Try.f79.body.getD .skip) by kernel_rfl, (Array.toArray_toList).symm, by kernel_rfl, by kernel_rfl, by kernel_rfl, by kernel_rfl, follows, callFunc_enter Try.func79 (by kernel_rfl) (by kernel_rfl)⟩
-- sentinel/sentinelref5.of
def N80 : Nat := 20
def keep80 : List Nat := [0, 2, 3, 4, 8]
def res80 : List RV := [(.t 2)]
def c80 : CC :=
 (.seq (.reg [⟨(some 2), (.mov (.c (.int 0))), none, 2⟩] [])
 (.seq (.reg [⟨(some 3), (.mov (.c (.int 0))), none, 2⟩] [])
 (.seq (.seq (.reg [⟨(some 4), (.mov (.c (.int 0))), none, 2⟩] [])
 (.block 0 (.loop (.seq (.seq (.reg [⟨(some 5), (.mov (.t 4)), none, 2⟩, ⟨(some 6), (.mov (.t 0)), none, 2⟩, ⟨(some 7), (.len false (.t 6)), none, 2⟩, ⟨(some 8), (.bin .lss (.t 5) (.t 7)), none, 2⟩] [])
 (.cond (.t 8)
 .skip
 (.exit 0)))
 (.seq (.block 1 (.reg [⟨(some 11), (.mov (.t 3)), none, 2⟩, ⟨(some 12), (.mov (.t 0)), none, 2⟩, ⟨(some 13), (.mov (.t 4)), none, 2⟩, ⟨(some 14), (.iadS 1 (.t 12) (.t 13)), none, 2⟩, ⟨(some 15), (.load none (.t 14)), none, 2⟩, ⟨(some 16), (.conv .iu64 (.t 15)), none, 2⟩, ⟨(some 17), (.bin .shl (.c (.int 1)) (.t 16)), none, 2⟩, ⟨(some 18), (.bin .or (.t 11) (.t 17)), none, 2⟩, ⟨(some 3), (.mov (.t 18)), none, 2⟩] []))
 (.reg [⟨(some 9), (.mov (.t 4)), none, 2⟩, ⟨(some 10), (.bin .add (.t 9) (.c (.int 1))), none, 2⟩, ⟨(some 4), (.mov (.t 10)), none, 2⟩] []))))))
 (.seq (.reg [⟨(some 19), (.mov (.t 3)), none, 2⟩, ⟨(some 2), (.mov (.t 19)), none, 2⟩] [])
 .ret))))
theorem o80 : FnOK Try.prog 80 N80 res80 c80 := ⟨_, _, Try.f80.results.toList, [], pures, Try.func80, show _ = some (Try.f80.body.getD .skip) by kernel_rfl, (Array.toArray_toList).symm, by kernel_rfl, by kernel_rfl, by kernel_rfl, by kernel_rfl, follows, callFunc_enter Try.func80 (by kernel_rfl) (by kernel_rfl)⟩
-- math/bits.Len32
def N81 : Nat := 19
def keep81 : List Nat := [0, 2, 4, 8]
def res81 : List RV := [(.t 2)]
def c81 : CC :=
 (.seq (.reg [⟨(some 2), (.mov (.c (.int 0))), none, 2⟩] [])
 (.seq (.seq (.reg [⟨(some 3), (.mov (.t 0)), none, 2⟩, ⟨(some 4), (.bin .geq (.t 3) (.c (.u32 65536))), none, 2⟩] [])
 (.cond (.t 4)
 (.seq (.reg [⟨(some 5), (.mov (.t 0)), none, 2⟩, ⟨(some 6), (.bin .shr (.t 5) (.c (.u64 16))), none, 2⟩, ⟨(some 0), (.mov (.t 6)), none, 2⟩] [])
 (.reg [⟨(some 2), (.mov (.c (.int 16))), none, 2⟩] []))
 .skip))
 (.seq (.seq (.reg [⟨(some 7), (.mov (.t 0)), none, 2⟩, ⟨(some 8), (.bin .geq (.t 7) (.c (.u32 256))), none, 2⟩] [])
 (.cond (.t 8)
 (.seq (.reg [⟨(some 9), (.mov (.t 0)), none, 2⟩, ⟨(some 10), (.bin .shr (.t 9) (.c (.u64 8))), none, 2⟩, ⟨(some 0), (.mov (.t 10)), none, 2⟩] [])
 (.reg [⟨(some 11), (.mov (.t 2)), none, 2⟩, ⟨(some 12), (.bin .add (.t 11) (.c (.int 8))), none, 2⟩, ⟨(some 2), (.mov (.t 12)), none, 2⟩] []))
 .skip))
 (.seq (.reg [⟨(some 13), (.mov (.t 2)), none, 2⟩, ⟨(some 14), (.mov (.t 0)), none, 2⟩, ⟨(some 15), (.conv .u32u8 (.t 14)), none, 2⟩, ⟨(some 16), (.idx (.c (.str [0, 1, 2, 2, 3, 3, 3, 3, 4, 4, 4, 4, 4, 4, 4, 4, 5, 5, 5, 5, 5, 5, 5, 5, 5, 5, 5, 5, 5, 5, 5, 5, 6, 6, 6, 6, 6, 6, 6, 6, 6, 6, 6, 6, 6, 6, 6, 6, 6, 6, 6, 6, 6, 6, 6, 6, 6, 6, 6, 6, 6, 6, 6, 6, 7, 7, 7, 7, 7, 7, 7, 7, 7, 7, 7, 7, 7, 7, 7, 7, 7, 7, 7, 7, 7, 7, 7, 7, 7, 7, 7, 7, 7, 7, 7, 7, 7, 7, 7, 7, 7, 7, 7, 7, 7, 7, 7, 7, 7, 7, 7, 7, 7, 7, 7, 7, 7, 7, 7, 7, 7, 7, 7, 7, 7, 7, 7, 7, 8, 8, 8, 8, 8, 8, 8, 8, 8, 8, 8, 8, 8, 8, 8, 8, 8, 8, 8, 8, 8, 8, 8, 8, 8, 8, 8, 8, 8, 8, 8, 8, 8, 8, 8, 8, 8, 8, 8, 8, 8, 8, 8, 8, 8, 8, 8, 8, 8, 8, 8, 8, 8, 8, 8, 8, 8, 8, 8, 8, 8, 8, 8, 8, 8, 8, 8, 8, 8, 8, 8, 8, 8, 8, 8, 8, 8, 8, 8, 8, 8, 8, 8, 8, 8, 8, 8, 8, 8, 8, 8, 8, 8, 8, 8, 8, 8, 8, 8, 8, 8, 8, 8, 8, 8, 8, 8, 8, 8, 8, 8, 8, 8, 8, 8, 8, 8, 8, 8, 8, 8, 8, 8, 8, 8, 8, 8, 8])) (.t 15)), none, 2⟩, ⟨(some 17), (.conv .u8i (.t 16)), none, 2⟩, ⟨(some 18), (.bin .add (.t 13) (.t 17)), none, 2⟩, ⟨(some 2), (.mov (.t 18)), none, 2⟩] [])
 .ret))))
theorem o81 : FnOK Try.prog 81 N81 res81 c81 := ⟨_, _, Try.f81.results.toList, [], pures, Try.func81, show _ = some (Try.f81.body.getD .skip) by kernel_rfl, (Array.toArray_toList).symm, by kernel_rfl, by kernel_rfl, by kernel_rfl, by kernel_rfl, follows, callFunc_enter Try.func81 (by kernel_rfl) (by kernel_rfl)⟩
-- sentinel/limb.Bytes
def N82 : Nat := 34
def keep82 : List Nat := [0, 1, 2, 3, 4, 7]
def res82 : List RV := [(.t 2)]
def c82 : CC :=
 (.seq (.reg [⟨(some 1), (.box (.t 0)), none, 2⟩, ⟨(some 2), (.mov (.c (.sl true 0 0 (.agg []) true))), none, 2⟩] [])
 (.seq (.reg [⟨(some 5), (.mksl .u8 1 1 [(.u8 0)] (.c (.int 0)) (.c (.int 32))), none, 2⟩, ⟨(some 3), (.mov (.t 5)), none, 2⟩] [])
 (.seq (.seq (.reg [⟨(some 4), (.mov (.c (.int 7))), none, 2⟩] [])
 (.block 0 (.loop (.seq (.seq (.reg [⟨(some 6), (.mov (.t 4)), none, 2⟩, ⟨(some 7), (.bin .geq (.t 6) (.c (.int 0))), none, 2⟩] [])
 (.cond (.t 7)
 .skip
 (.exit 0)))
 (.seq (.block 1 (.reg [⟨(some 10), (.mov (.t 3)), none, 0⟩, ⟨(some 11), (.mov (.t 4)), none, 0⟩, ⟨(some 12), (.iadA 8 1 (.t 1) (.t 11)), none, 0⟩, ⟨(some 13), (.load none (.t 12)), none, 1⟩, ⟨(some 14), (.bin .shr (.t 13) (.c (.u64 24))), none, 0⟩, ⟨(some 15), (.conv .u32u8 (.t 14)), none, 0⟩, ⟨(some 16), (.mov (.t 4)), none, 0⟩, ⟨(some 17), (.iadA 8 1 (.t 1) (.t 16)), none, 0⟩, ⟨(some 18), (.load none (.t 17)), none, 1⟩, ⟨(some 19), (.bin .shr (.t 18) (.c (.u64 16))), none, 0⟩, ⟨(some 20), (.conv .u32u8 (.t 19)), none, 0⟩, ⟨(some 21), (.mov (.t 4)), none, 0⟩, ⟨(some 22), (.iadA 8 1 (.t 1) (.t 21)), none, 0⟩, ⟨(some 23), (.load none (.t 22)), none, 1⟩, ⟨(some 24), (.bin .shr (.t 23) (.c (.u64 8))), none, 0⟩, ⟨(some 25), (.conv .u32u8 (.t 24)), none, 0⟩, ⟨(some 26), (.mov (.t 4)), none, 0⟩, ⟨(some 27), (.iadA 8 1 (.t 1) (.t 26)), none, 0⟩, ⟨(some 28), (.load none (.t 27)), none, 1⟩, ⟨(some 29), (.conv .u32u8 (.t 28)), none, 0⟩, ⟨(some 30), (.bsl false .u8 1 4 [(.u8 0)] [(0, (1, (.t 15))), (1, (1, (.t 20))), (2, (1, (.t 25))), (3, (1, (.t 29)))]), none, 0⟩, ⟨(some 31), (.app true 1 1 (.t 10) (.t 30)), none, 2⟩, ⟨(some 3), (.mov (.t 31)), none, 0⟩] []))
 (.reg [⟨(some 8), (.mov (.t 4)), none, 2⟩, ⟨(some 9), (.bin .sub (.t 8) (.c (.int 1))), none, 2⟩, ⟨(some 4), (.mov (.t 9)), none, 2⟩] []))))))
 (.seq (.reg [⟨(some 32), (.mov (.t 3)), none, 2⟩, ⟨(some 33), (.slcS 1 (.t 32) none (some (.c (.int 32))) (some (.c (.int 32)))), none, 2⟩, ⟨(some 2), (.mov (.t 33)), none, 2⟩] [])
 .ret))))
theorem o82 : FnOK Try.prog 82 N82 res82 c82 := ⟨_, _, Try.f82.results.toList, [], pures, Try.func82, show _ = some (Try.f82.body.getD .skip) by kernel_rfl, (Array.toArray_toList).symm, by kernel_rfl, by kernel_rfl, by kernel_rfl, by kernel_rfl, follows, callFunc_enter Try.func82 (by kernel_rfl) (by kernel_rfl)⟩
-- sentinel/sentinelref1.Bytes
def N83 : Nat := 32
def keep83 : List Nat := [0, 1, 2, 3, 4, 6]
def res83 : List RV := [(.t 2)]
def c83 : CC :=
 (.seq (.reg [⟨(some 1), (.box (.t 0)), none, 2⟩, ⟨(some 2), (.mov (.c (.sl true 0 0 (.agg []) true))), none, 2⟩] [])
 (.seq (.reg [⟨(some 3), (.mov (.c (.sl true 0 0 (.agg []) true))), none, 2⟩] [])
 (.seq (.seq (.reg [⟨(some 4), (.mov (.c (.int 7))), none, 2⟩] [])
 (.block 0 (.loop (.seq (.seq (.reg [⟨(some 5), (.mov (.t 4)), none, 2⟩, ⟨(some 6), (.bin .geq (.t 5) (.c (.int 0))), none, 2⟩] [])
 (.cond (.t 6)
 .skip
 (.exit 0)))
 (.seq (.block 1 (.reg [⟨(some 9), (.mov (.t 3)), none, 0⟩, ⟨(some 10), (.mov (.t 4)), none, 0⟩, ⟨(some 11), (.iadA 8 1 (.t 1) (.t 10)), none, 0⟩, ⟨(some 12), (.load none (.t 11)), none, 1⟩, ⟨(some 13), (.bin .shr (.t 12) (.c (.u64 24))), none, 0⟩, ⟨(some 14), (.conv .u32u8 (.t 13)), none, 0⟩, ⟨(some 15), (.mov (.t 4)), none, 0⟩, ⟨(some 16), (.iadA 8 1 (.t 1) (.t 15)), none, 0⟩, ⟨(some 17), (.load none (.t 16)), none, 1⟩, ⟨(some 18), (.bin .shr (.t 17) (.c (.u64 16))), none, 0⟩, ⟨(some 19), (.conv .u32u8 (.t 18)), none, 0⟩, ⟨(some 20), (.mov (.t 4)), none, 0⟩, ⟨(some 21), (.iadA 8 1 (.t 1) (.t 20)), none, 0⟩, ⟨(some 22), (.load none (.t 21)), none, 1⟩, ⟨(some 23), (.bin .shr (.t 22) (.c (.u64 8))), none, 0⟩, ⟨(some 24), (.conv .u32u8 (.t 23)), none, 0⟩, ⟨(some 25), (.mov (.t 4)), none, 0⟩, ⟨(some 26), (.iadA 8 1 (.t 1) (.t 25)), none, 0⟩, ⟨(some 27), (.load none (.t 26)), none, 1⟩, ⟨(some 28), (.conv .u32u8 (.t 27)), none, 0⟩, ⟨(some 29), (.bsl false .u8 1 4 [(.u8 0)] [(0, (1, (.t 14))), (1, (1, (.t 19))), (2, (1, (.t 24))), (3, (1, (.t 28)))]), none, 0⟩, ⟨(some 30), (.app true 1 1 (.t 9) (.t 29)), none, 2⟩, ⟨(some 3), (.mov (.t 30)), none, 0⟩] []))
 (.reg [⟨(some 7), (.mov (.t 4)), none, 2⟩, ⟨(some 8), (.bin .sub (.t 7) (.c (.int 1))), none, 2⟩, ⟨(some 4), (.mov (.t 8)), none, 2⟩] []))))))
 (.seq (.reg [⟨(some 31), (.mov (.t 3)), none, 2⟩, ⟨(some 2), (.mov (.t 31)), none, 2⟩] [])
 .ret))))
theorem o83 : FnOK Try.prog 83 N83 res83 c83 := ⟨_, _, Try.f83.results.toList, [], pures, Try.func83, show _ = some (Try.f83.body.getD .skip) by kernel_rfl, (Array.toArray_toList).symm, by kernel_rfl, by kernel_rfl, by kernel_rfl, by kernel_rfl, follows, callFunc_enter Try.func83 (by kernel_rfl) (by kernel_rfl)⟩
-- sentinel/limb.Read
def N84 : Nat := 38
def keep84 : List Nat := [0, 2, 3, 4, 5, 6, 7, 10, 12, 13, 14, 15]
def res84 : List RV := [(.c 2 (some 8)), (.t 3)]
def c84 : CC :=
 (.seq (.reg [⟨(some 2), (.alloc (.agg [(.u32 0), (.u32 0), (.u32 0), (.u32 0), (.u32 0), (.u32 0), (.u32 0), (.u32 0)])), none, 2⟩, ⟨(some 3), (.mov (.c (.bool false))), none, 2⟩] [])
 (.seq (.reg [⟨(some 4), (.alloc (.agg [(.u32 0), (.u32 0), (.u32 0), (.u32 0), (.u32 0), (.u32 0), (.u32 0), (.u32 0)])), none, 2⟩] [])
 (.seq (.seq (.reg [⟨(some 8), (.mov (.t 0)), none, 2⟩, ⟨(some 9), (.len false (.t 8)), none, 2⟩, ⟨(some 10), (.bin .gtr (.t 9) (.c (.int 32))), none, 2⟩] [])
 (.cond (.t 10)
 (.seq (.reg [⟨(some 11), (.load (some 8) (.t 4)), none, 2⟩, ⟨none, (.store (some 8) (.t 2) (.t 11)), none, 2⟩, ⟨(some 3), (.mov (.c (.bool false))), none, 2⟩] [])
 .ret)
 .skip))
 (.seq (.seq (.reg [⟨(some 12), (.mov (.t 0)), none, 2⟩, ⟨(some 13), (.len false (.t 12)), none, 2⟩, ⟨(some 14), (.mov (.c (.int 0))), none, 2⟩] [])
 (.block 0 (.loop (.seq (.reg [⟨(some 15), (.bin .lss (.t 14) (.t 13)), none, 2⟩] [])
 (.seq (.cond (.t 15)
 .skip
 (.exit 0))
 (.seq (.block 1 (.seq (.reg [⟨(some 16), (.mov (.t 14)), none, 2⟩, ⟨(some 17), (.iadS 1 (.t 12) (.t 14)), none, 2⟩, ⟨(some 18), (.load none (.t 17)), none, 2⟩, ⟨(some 5), (.mov (.t 16)), none, 2⟩, ⟨(some 6), (.mov (.t 18)), none, 2⟩] [])
 (.seq (.reg [⟨(some 19), (.mov (.t 0)), none, 2⟩, ⟨(some 20), (.len false (.t 19)), none, 2⟩, ⟨(some 21), (.bin .sub (.t 20) (.c (.int 1))), none, 2⟩, ⟨(some 22), (.mov (.t 5)), none, 2⟩, ⟨(some 23), (.bin .sub (.t 21) (.t 22)), none, 2⟩, ⟨(some 7), (.mov (.t 23)), none, 2⟩] [])
 (.reg [⟨(some 24), (.mov (.t 7)), none, 0⟩, ⟨(some 25), (.bin .quo (.t 24) (.c (.int 4))), none, 0⟩, ⟨(some 26), (.iadA 8 1 (.t 4) (.t 25)), none, 0⟩, ⟨(some 27), (.load none (.t 26)), none, 1⟩, ⟨(some 28), (.mov (.t 6)), none, 0⟩, ⟨(some 29), (.conv .u8u32 (.t 28)), none, 0⟩, ⟨(some 30), (.mov (.t 7)), none, 0⟩, ⟨(some 31), (.bin .rem (.t 30) (.c (.int 4))), none, 0⟩, ⟨(some 32), (.bin .mul (.c (.int 8)) (.t 31)), none, 0⟩, ⟨(some 33), (.bin .shl (.t 29) (.t 32)), none, 0⟩, ⟨(some 34), (.bin .or (.t 27) (.t 33)), none, 0⟩, ⟨(some 35), (.iadA 8 1 (.t 4) (.t 25)), none, 0⟩, ⟨none, (.store none (.t 35) (.t 34)), none, 2⟩] []))))
 (.reg [⟨(some 36), (.bin .add (.t 14) (.c (.int 1))), none, 2⟩, ⟨(some 14), (.mov (.t 36)), none, 2⟩] [])))))))
 (.seq (.reg [⟨(some 37), (.load (some 8) (.t 4)), none, 2⟩, ⟨none, (.store (some 8) (.t 2) (.t 37)), none, 2⟩, ⟨(some 3), (.mov (.c (.bool true))), none, 2⟩] [])
 .ret)))))
theorem o84 : FnOK Try.prog 84 N84 res84 c84 := ⟨_, _, Try.f84.results.toList, [], pures, Try.func84, show _ = some (Try.f84.body.getD .skip) by kernel_rfl, (Array.toArray_toList).symm, by kernel_rfl, by kernel_rfl, by kernel_rfl, by kernel_rfl, follows, callFunc_enter Try.func84 (by kernel_rfl) (by kernel_rfl)⟩
-- slices.Values[[]sentinel/wire.field,sentinel/wire.field]$1
def N85 : Nat := 16
def keep85 : List Nat := [0, 1, 4, 5, 6, 7, 8, 14]
def res85 : List RV := []
def c85 : CC :=
 (.seq (.reg [⟨(some 5), (.load none (.t 1)), none, 2⟩, ⟨(some 6), (.len false (.t 5)), none, 2⟩, ⟨(some 7), (.mov (.c (.int 0))), none, 2⟩] [])
 (.block 0 (.loop (.seq (.reg [⟨(some 8), (.bin .lss (.t 7) (.t 6)), none, 2⟩] [])
 (.seq (.cond (.t 8)
 .skip
 (.exit 0))
 (.seq (.block 1 (.seq (.reg [⟨(some 9), (.iadS 3 (.t 5) (.t 7)), none, 2⟩, ⟨(some 10), (.load (some 3) (.t 9)), none, 2⟩, ⟨(some 4), (.alloc (.agg [(.int 0), (.sl true 0 0 (.agg []) true), (.bool false)])), none, 2⟩, ⟨none, (.store (some 3) (.t 4) (.t 10)), none, 2⟩] [])
 (.seq (.reg [⟨(some 11), (.mov (.t 0)), none, 2⟩, ⟨(some 12), (.load (some 3) (.t 4)), none, 2⟩, ⟨(some 13), (.call (.t 11) [(.t 12)]), none, 2⟩, ⟨(some 14), (.un .not (.t 13)), none, 2⟩] [])
 (.cond (.t 14)
 .ret
 .skip))))
 (.reg [⟨(some 15), (.bin .add (.t 7) (.c (.int 1))), none, 2⟩, ⟨(some 7), (.mov (.t 15)), none, 2⟩] [])))))))
theorem o85 : FnOK Try.prog 85 N85 res85 c85 := ⟨_, _, Try.f85.results.toList, [], pures, Try.func85, show _ = some (Try.f85.body.getD .skip) by kernel_rfl, (Array.toArray_toList).symm, by kernel_rfl, by kernel_rfl, by kernel_rfl, by kernel_rfl, follows, callFunc_enter Try.func85 (by kernel_rfl) (by kernel_rfl)⟩
end Go.Abs
