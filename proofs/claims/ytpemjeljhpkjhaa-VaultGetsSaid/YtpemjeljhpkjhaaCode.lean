/-
  Own work. Conditions: none. The code of the functions of this seat in the short form. (Own work; printed by our own program.)
-/
import Derived.Test.YtpemjeljhpkjhaaAbsC
import Derived.Test.YtpemjeljhpkjhaaProg
import Derived.KernelRfl
set_option linter.unusedVariables false
set_option linter.unusedSimpArgs false
set_option linter.unnecessarySimpa false
namespace Go.Abs
open Go.Proofs
set_option maxRecDepth 100000
theorem follows : Try.prog.follows .mixedOrders = true := by kernel_rfl
def pures : List Nat := [10, 13, 19, 20, 24, 25, 28, 29, 32, 33, 38, 42, 43, 44, 45, 46, 47, 48, 49, 51, 52, 54, 56, 57, 58, 59, 69, 72, 81, 83, 88, 89, 90]
-- sentinel/sentinellaw6.known
def N8 : Nat := 57
def keep8 : List Nat := [0, 1, 2, 3, 4, 5, 13]
def res8 : List RV := [(.t 0)]
def c8 : CC :=
 (.seq (.reg [⟨(some 0), (.mov (.c (.bool false))), none, 2⟩] [])
 (.seq (.reg [⟨(some 6), (.call (.c (.fn 9 [])) []), none, 2⟩, ⟨(some 1), (.mov (.t 6)), none, 2⟩] [])
 (.seq (.seq (.reg [⟨(some 7), (.mov (.t 1)), none, 2⟩, ⟨(some 8), (.eq false .ptr (.t 7) (.c .nilp)), none, 2⟩, ⟨(some 9), (.mov (.t 8)), none, 2⟩, ⟨(some 10), (.mov (.t 1)), (some (9, false)), 2⟩, ⟨(some 11), (.call (.c (.fn 15 [])) [(.t 10)]), (some (9, false)), 2⟩, ⟨(some 12), (.eq true .sc (.t 11) (.c (.int 1))), (some (9, false)), 2⟩, ⟨(some 13), (.pick (.t 9) (.c (.bool true)) (.t 12)), none, 2⟩] [])
 (.cond (.t 13)
 (.seq (.reg [⟨(some 0), (.mov (.c (.bool false))), none, 2⟩] [])
 .ret)
 .skip))
 (.seq (.reg [⟨(some 14), (.mov (.t 1)), none, 2⟩, ⟨(some 15), (.build [(.int 0), (.str []), (.sl true 0 0 (.agg []) true), (.u32 0), (.u32 0), (.u32 0), (.u32 0), (.u32 0), (.u32 0), (.u32 0), (.u32 0), (.u32 0), (.u32 0), (.u32 0), (.u32 0), (.u32 0), (.u32 0), (.u32 0), (.u32 0), (.sl true 0 0 (.agg []) true), (.int 0), (.int 0), (.int 0)] [(0, (1, (.c (.int 1)))), (1, (1, (.c (.str [97]))))]), none, 2⟩, ⟨(some 16), (.call (.c (.fn 12 [])) [(.t 14), (.t 15)]), none, 2⟩, ⟨(some 2), (.mov (.t 16)), none, 2⟩] [])
 (.seq (.reg [⟨(some 18), (.mov (.t 1)), none, 2⟩, ⟨(some 19), (.call (.c (.fn 18 [])) [(.t 18), (.c (.str [97]))]), none, 2⟩, ⟨(some 17), (.mov (.t 19)), none, 2⟩, ⟨(some 20), (.ext (.t 17) 0), none, 2⟩, ⟨(some 21), (.ext (.t 17) 1), none, 2⟩, ⟨(some 3), (.alloc (.agg [(.int 0), (.str []), (.sl true 0 0 (.agg []) true), (.u32 0), (.u32 0), (.u32 0), (.u32 0), (.u32 0), (.u32 0), (.u32 0), (.u32 0), (.u32 0), (.u32 0), (.u32 0), (.u32 0), (.u32 0), (.u32 0), (.u32 0), (.u32 0), (.sl true 0 0 (.agg []) true), (.int 0), (.int 0), (.int 0)])), none, 2⟩, ⟨none, (.store (some 23) (.t 3) (.t 20)), none, 2⟩, ⟨(some 4), (.mov (.t 21)), none, 2⟩] [])
 (.seq (.reg [⟨(some 22), (.mov (.t 1)), none, 2⟩, ⟨(some 23), (.call (.c (.fn 21 [])) [(.t 22)]), none, 2⟩, ⟨(some 5), (.mov (.t 23)), none, 2⟩] [])
 (.seq (.reg [⟨(some 24), (.mov (.t 1)), none, 2⟩, ⟨(some 25), (.call (.c (.fn 14 [])) [(.t 24), (.c (.sl true 0 0 (.agg []) true))]), none, 2⟩] [])
 (.seq (.reg [⟨(some 26), (.mov (.t 2)), none, 2⟩, ⟨(some 27), (.eq false .sc (.t 26) (.c (.int 0))), none, 2⟩, ⟨(some 28), (.mov (.t 27)), none, 2⟩, ⟨(some 29), (.mov (.t 4)), (some (28, true)), 2⟩, ⟨(some 30), (.pick (.t 28) (.t 29) (.c (.bool false))), none, 2⟩, ⟨(some 31), (.mov (.t 30)), none, 2⟩, ⟨(some 32), (.fad 1 (.t 3)), (some (31, true)), 2⟩, ⟨(some 33), (.load none (.t 32)), (some (31, true)), 2⟩, ⟨(some 34), (.eq false .sc (.t 33) (.c (.str [97]))), (some (31, true)), 2⟩, ⟨(some 35), (.pick (.t 31) (.t 34) (.c (.bool false))), none, 2⟩, ⟨(some 36), (.mov (.t 35)), none, 2⟩, ⟨(some 37), (.mov (.t 5)), (some (36, true)), 2⟩, ⟨(some 38), (.len false (.t 37)), (some (36, true)), 2⟩, ⟨(some 39), (.eq false .sc (.t 38) (.c (.int 1))), (some (36, true)), 2⟩, ⟨(some 40), (.pick (.t 36) (.t 39) (.c (.bool false))), none, 2⟩, ⟨(some 41), (.mov (.t 40)), none, 2⟩, ⟨(some 42), (.mov (.t 1)), (some (41, true)), 2⟩, ⟨(some 43), (.call (.c (.fn 15 [])) [(.t 42)]), (some (41, true)), 2⟩, ⟨(some 44), (.eq false .sc (.t 43) (.c (.int 2))), (some (41, true)), 2⟩, ⟨(some 45), (.pick (.t 41) (.t 44) (.c (.bool false))), none, 2⟩, ⟨(some 46), (.mov (.t 45)), none, 2⟩, ⟨(some 47), (.mov (.t 1)), (some (46, true)), 2⟩, ⟨(some 48), (.call (.c (.fn 16 [])) [(.t 47)]), (some (46, true)), 2⟩, ⟨(some 49), (.un .not (.t 48)), (some (46, true)), 2⟩, ⟨(some 50), (.pick (.t 46) (.t 49) (.c (.bool false))), none, 2⟩, ⟨(some 51), (.mov (.t 50)), none, 2⟩, ⟨(some 52), (.mov (.t 1)), (some (51, true)), 2⟩, ⟨(some 53), (.call (.c (.fn 17 [])) [(.t 52)]), (some (51, true)), 2⟩, ⟨(some 54), (.len false (.t 53)), (some (51, true)), 2⟩, ⟨(some 55), (.eq false .sc (.t 54) (.c (.int 18))), (some (51, true)), 2⟩, ⟨(some 56), (.pick (.t 51) (.t 55) (.c (.bool false))), none, 2⟩, ⟨(some 0), (.mov (.t 56)), none, 2⟩] [])
 .ret))))))))
theorem o8 : FnOK Try.prog 8 N8 res8 c8 := ⟨_, _, Try.f8.results.toList, [], pures, Try.func8, show _ = some (Try.f8.body.getD .skip) by kernel_rfl, (Array.toArray_toList).symm, by kernel_rfl, by kernel_rfl, by kernel_rfl, by kernel_rfl, follows, callFunc_enter Try.func8 (by kernel_rfl) (by kernel_rfl)⟩
-- sentinel/vault.New
def N9 : Nat := 10
def keep9 : List Nat := [0, 1]
def res9 : List RV := [(.t 0)]
def c9 : CC :=
 (.seq (.reg [⟨(some 0), (.mov (.c .nilp)), none, 2⟩] [])
 (.seq (.reg [⟨(some 2), (.mksl .other 3 56 [(.sl true 0 0 (.agg []) true), (.sl true 0 0 (.agg []) true), (.bool false)] (.c (.int 18)) (.c (.int 18))), none, 2⟩, ⟨(some 3), (.build [(.sl true 0 0 (.agg []) true), (.int 0), (.bool false)] [(0, (1, (.t 2))), (1, (1, (.c (.int (-1)))))]), none, 2⟩, ⟨(some 4), (.build [(.sl true 0 0 (.agg []) true), (.int 0), (.bool false)] [(0, (3, (.t 3)))]), none, 2⟩, ⟨(some 5), (.box (.t 4)), none, 2⟩, ⟨(some 1), (.mov (.t 5)), none, 2⟩] [])
 (.seq (.reg [⟨(some 6), (.mov (.t 1)), none, 2⟩, ⟨(some 7), (.call (.c (.fn 24 [])) [(.c (.int 1))]), none, 2⟩, ⟨(some 8), (.call (.c (.fn 23 [])) [(.t 6), (.c (.int 8)), (.t 7)]), none, 2⟩] [])
 (.seq (.reg [⟨(some 9), (.mov (.t 1)), none, 2⟩, ⟨(some 0), (.mov (.t 9)), none, 2⟩] [])
 .ret))))
theorem o9 : FnOK Try.prog 9 N9 res9 c9 := ⟨_, _, Try.f9.results.toList, [], pures, Try.func9, show _ = some (Try.f9.body.getD .skip) by kernel_rfl, (Array.toArray_toList).symm, by kernel_rfl, by kernel_rfl, by kernel_rfl, by kernel_rfl, follows, callFunc_enter Try.func9 (by kernel_rfl) (by kernel_rfl)⟩
-- sentinel/sentinellaw6.within
def N10 : Nat := 15
def keep10 : List Nat := [0, 1, 4, 5, 10]
def res10 : List RV := [(.t 4)]
def c10 : CC :=
 (.seq (.reg [⟨(some 4), (.mov (.c (.int 0))), none, 2⟩] [])
 (.seq (.reg [⟨(some 6), (.mov (.t 0)), none, 2⟩, ⟨(some 7), (.mov (.t 1)), none, 2⟩, ⟨(some 8), (.bin .rem (.t 6) (.t 7)), none, 2⟩, ⟨(some 5), (.mov (.t 8)), none, 2⟩] [])
 (.seq (.seq (.reg [⟨(some 9), (.mov (.t 5)), none, 2⟩, ⟨(some 10), (.bin .lss (.t 9) (.c (.int 0))), none, 2⟩] [])
 (.cond (.t 10)
 (.reg [⟨(some 11), (.mov (.t 5)), none, 2⟩, ⟨(some 12), (.mov (.t 1)), none, 2⟩, ⟨(some 13), (.bin .add (.t 11) (.t 12)), none, 2⟩, ⟨(some 5), (.mov (.t 13)), none, 2⟩] [])
 .skip))
 (.seq (.reg [⟨(some 14), (.mov (.t 5)), none, 2⟩, ⟨(some 4), (.mov (.t 14)), none, 2⟩] [])
 .ret))))
theorem o10 : FnOK Try.prog 10 N10 res10 c10 := ⟨_, _, Try.f10.results.toList, [], pures, Try.func10, show _ = some (Try.f10.body.getD .skip) by kernel_rfl, (Array.toArray_toList).symm, by kernel_rfl, by kernel_rfl, by kernel_rfl, by kernel_rfl, follows, callFunc_enter Try.func10 (by kernel_rfl) (by kernel_rfl)⟩
-- (*sentinel/vault.Vault).Fail
def N11 : Nat := 10
def keep11 : List Nat := [0, 1]
def res11 : List RV := []
def c11 : CC :=
 (.reg [⟨(some 4), (.mov (.t 0)), none, 2⟩, ⟨(some 5), (.mov (.t 1)), none, 2⟩, ⟨(some 6), (.mx (.t 5) (.c (.int (-1)))), none, 2⟩, ⟨(some 7), (.nilck (.t 4)), none, 2⟩, ⟨(some 8), (.fad 0 (.t 7)), none, 2⟩, ⟨(some 9), (.fad 1 (.t 8)), none, 2⟩, ⟨none, (.store none (.t 9) (.t 6)), none, 2⟩] [])
theorem o11 : FnOK Try.prog 11 N11 res11 c11 := ⟨_, _, Try.f11.results.toList, [], pures, Try.func11, show _ = some (Try.f11.body.getD .skip) by kernel_rfl, (Array.toArray_toList).symm, by kernel_rfl, by kernel_rfl, by kernel_rfl, by kernel_rfl, follows, callFunc_enter Try.func11 (by kernel_rfl) (by kernel_rfl)⟩
-- (*sentinel/vault.Vault).Put
def N12 : Nat := 35
def keep12 : List Nat := [0, 1, 3, 4, 5, 6, 7, 12, 19, 25, 29]
def res12 : List RV := [(.t 4)]
def c12 : CC :=
 (.seq (.reg [⟨(some 3), (.box (.t 1)), none, 2⟩, ⟨(some 4), (.mov (.c (.int 0))), none, 2⟩] [])
 (.seq (.seq (.reg [⟨(some 8), (.mov (.t 0)), none, 2⟩, ⟨(some 9), (.nilck (.t 8)), none, 2⟩, ⟨(some 10), (.fad 0 (.t 9)), none, 2⟩, ⟨(some 11), (.fad 2 (.t 10)), none, 2⟩, ⟨(some 12), (.load none (.t 11)), none, 2⟩] [])
 (.cond (.t 12)
 (.seq (.reg [⟨(some 4), (.mov (.c (.int 10))), none, 2⟩] [])
 .ret)
 .skip))
 (.seq (.reg [⟨(some 14), (.load (some 23) (.t 3)), none, 2⟩, ⟨(some 15), (.call (.c (.fn 25 [])) [(.t 14)]), none, 2⟩, ⟨(some 13), (.mov (.t 15)), none, 2⟩, ⟨(some 16), (.ext (.t 13) 0), none, 2⟩, ⟨(some 17), (.ext (.t 13) 1), none, 2⟩, ⟨(some 5), (.mov (.t 16)), none, 2⟩, ⟨(some 6), (.mov (.t 17)), none, 2⟩] [])
 (.seq (.seq (.reg [⟨(some 18), (.mov (.t 6)), none, 2⟩, ⟨(some 19), (.un .not (.t 18)), none, 2⟩] [])
 (.cond (.t 19)
 (.seq (.reg [⟨(some 4), (.mov (.c (.int 11))), none, 2⟩] [])
 .ret)
 .skip))
 (.seq (.reg [⟨(some 20), (.mov (.t 0)), none, 2⟩, ⟨(some 21), (.fad 1 (.t 3)), none, 2⟩, ⟨(some 22), (.load none (.t 21)), none, 2⟩, ⟨(some 23), (.call (.c (.fn 26 [])) [(.t 20), (.t 22)]), none, 2⟩, ⟨(some 7), (.mov (.t 23)), none, 2⟩] [])
 (.seq (.seq (.reg [⟨(some 24), (.mov (.t 7)), none, 2⟩, ⟨(some 25), (.bin .lss (.t 24) (.c (.int 0))), none, 2⟩] [])
 (.cond (.t 25)
 (.reg [⟨(some 26), (.mov (.t 0)), none, 2⟩, ⟨(some 27), (.call (.c (.fn 27 [])) [(.t 26)]), none, 2⟩, ⟨(some 7), (.mov (.t 27)), none, 2⟩] [])
 .skip))
 (.seq (.seq (.reg [⟨(some 28), (.mov (.t 7)), none, 2⟩, ⟨(some 29), (.bin .lss (.t 28) (.c (.int 0))), none, 2⟩] [])
 (.cond (.t 29)
 (.seq (.reg [⟨(some 4), (.mov (.c (.int 7))), none, 2⟩] [])
 .ret)
 .skip))
 (.seq (.reg [⟨(some 30), (.mov (.t 0)), none, 2⟩, ⟨(some 31), (.mov (.t 7)), none, 2⟩, ⟨(some 32), (.mov (.t 5)), none, 2⟩, ⟨(some 33), (.call (.c (.fn 23 [])) [(.t 30), (.t 31), (.t 32)]), none, 2⟩, ⟨(some 34), (.call (.c (.fn 28 [])) [(.t 33)]), none, 2⟩, ⟨(some 4), (.mov (.t 34)), none, 2⟩] [])
 .ret))))))))
theorem o12 : FnOK Try.prog 12 N12 res12 c12 := ⟨_, _, Try.f12.results.toList, [], pures, Try.func12, show _ = some (Try.f12.body.getD .skip) by kernel_rfl, (Array.toArray_toList).symm, by kernel_rfl, by kernel_rfl, by kernel_rfl, by kernel_rfl, follows, callFunc_enter Try.func12 (by kernel_rfl) (by kernel_rfl)⟩
-- sentinel/sentinellaw6.Rec
def N13 : Nat := 17
def keep13 : List Nat := [0, 1, 4, 5]
def res13 : List RV := [(.c 4 (some 23))]
def c13 : CC :=
 (.seq (.reg [⟨(some 4), (.alloc (.agg [(.int 0), (.str []), (.sl true 0 0 (.agg []) true), (.u32 0), (.u32 0), (.u32 0), (.u32 0), (.u32 0), (.u32 0), (.u32 0), (.u32 0), (.u32 0), (.u32 0), (.u32 0), (.u32 0), (.u32 0), (.u32 0), (.u32 0), (.u32 0), (.sl true 0 0 (.agg []) true), (.int 0), (.int 0), (.int 0)])), none, 2⟩] [])
 (.seq (.reg [⟨(some 6), (.mov (.t 0)), none, 2⟩, ⟨(some 7), (.mov (.t 1)), none, 2⟩, ⟨(some 8), (.call (.c (.fn 29 [])) [(.t 6), (.c (.str [])), (.t 7)]), none, 2⟩, ⟨(some 5), (.alloc (.agg [(.int 0), (.str []), (.sl true 0 0 (.agg []) true), (.u32 0), (.u32 0), (.u32 0), (.u32 0), (.u32 0), (.u32 0), (.u32 0), (.u32 0), (.u32 0), (.u32 0), (.u32 0), (.u32 0), (.u32 0), (.u32 0), (.u32 0), (.u32 0), (.sl true 0 0 (.agg []) true), (.int 0), (.int 0), (.int 0)])), none, 2⟩, ⟨none, (.store (some 23) (.t 5) (.t 8)), none, 2⟩] [])
 (.seq (.reg [⟨(some 9), (.call (.c (.fn 20 [])) []), none, 2⟩, ⟨(some 10), (.mov (.t 0)), none, 2⟩, ⟨(some 11), (.bin .quo (.t 10) (.c (.int 23))), none, 2⟩, ⟨(some 12), (.call (.c (.fn 10 [])) [(.t 11), (.c (.int 10))]), none, 2⟩, ⟨(some 13), (.iadS 1 (.t 9) (.t 12)), none, 2⟩, ⟨(some 14), (.load none (.t 13)), none, 2⟩, ⟨(some 15), (.fad 1 (.t 5)), none, 2⟩, ⟨none, (.store none (.t 15) (.t 14)), none, 2⟩] [])
 (.seq (.reg [⟨(some 16), (.load (some 23) (.t 5)), none, 2⟩, ⟨none, (.store (some 23) (.t 4) (.t 16)), none, 2⟩] [])
 .ret))))
theorem o13 : FnOK Try.prog 13 N13 res13 c13 := ⟨_, _, Try.f13.results.toList, [], pures, Try.func13, show _ = some (Try.f13.body.getD .skip) by kernel_rfl, (Array.toArray_toList).symm, by kernel_rfl, by kernel_rfl, by kernel_rfl, by kernel_rfl, follows, callFunc_enter Try.func13 (by kernel_rfl) (by kernel_rfl)⟩
-- (*sentinel/vault.Vault).Again
def N14 : Nat := 81
def keep14 : List Nat := [0, 1, 4, 5, 6, 12, 13, 14, 27, 30]
def res14 : List RV := []
def c14 : CC :=
 (.seq (.seq (.reg [⟨(some 7), (.mov (.t 0)), none, 2⟩, ⟨(some 8), (.nilck (.t 7)), none, 2⟩, ⟨(some 9), (.fad 0 (.t 8)), none, 2⟩, ⟨(some 10), (.fad 0 (.t 9)), none, 2⟩, ⟨(some 11), (.load none (.t 10)), none, 2⟩, ⟨(some 12), (.len false (.t 11)), none, 2⟩, ⟨(some 13), (.mov (.c (.int 0))), none, 2⟩] [])
 (.block 0 (.loop (.seq (.reg [⟨(some 14), (.bin .lss (.t 13) (.t 12)), none, 2⟩] [])
 (.seq (.cond (.t 14)
 .skip
 (.exit 0))
 (.seq (.block 1 (.seq (.reg [⟨(some 15), (.mov (.t 13)), none, 2⟩, ⟨(some 4), (.mov (.t 15)), none, 2⟩] [])
 (.seq (.reg [⟨(some 16), (.mov (.t 0)), none, 2⟩, ⟨(some 17), (.nilck (.t 16)), none, 2⟩, ⟨(some 18), (.fad 0 (.t 17)), none, 2⟩, ⟨(some 19), (.fad 0 (.t 18)), none, 2⟩, ⟨(some 20), (.load none (.t 19)), none, 2⟩, ⟨(some 21), (.mov (.t 4)), none, 2⟩, ⟨(some 22), (.iadS 3 (.t 20) (.t 21)), none, 2⟩, ⟨(some 5), (.mov (.t 22)), none, 2⟩] [])
 (.seq (.seq (.reg [⟨(some 23), (.mov (.t 5)), none, 2⟩, ⟨(some 24), (.nilck (.t 23)), none, 2⟩, ⟨(some 25), (.fad 2 (.t 24)), none, 2⟩, ⟨(some 26), (.load none (.t 25)), none, 2⟩, ⟨(some 27), (.un .not (.t 26)), none, 2⟩] [])
 (.cond (.t 27)
 (.exit 1)
 .skip))
 (.seq (.reg [⟨(some 6), (.mov (.c (.int 0))), none, 2⟩] [])
 (.seq (.seq (.reg [⟨(some 28), (.mov (.t 1)), none, 2⟩, ⟨(some 29), (.len false (.t 28)), none, 2⟩, ⟨(some 30), (.bin .gtr (.t 29) (.c (.int 0))), none, 2⟩] [])
 (.cond (.t 30)
 (.seq (.reg [⟨(some 31), (.mov (.t 1)), none, 0⟩, ⟨(some 32), (.iadS 1 (.t 31) (.c (.int 0))), none, 1⟩, ⟨(some 33), (.load none (.t 32)), none, 1⟩, ⟨(some 34), (.mov (.t 5)), none, 0⟩, ⟨(some 35), (.nilck (.t 34)), none, 0⟩, ⟨(some 36), (.fad 1 (.t 35)), none, 0⟩, ⟨(some 37), (.load none (.t 36)), none, 1⟩, ⟨(some 38), (.len false (.t 37)), none, 0⟩, ⟨(some 39), (.mn (.t 33) (.t 38)), none, 0⟩, ⟨(some 40), (.mx (.c (.int 0)) (.t 39)), none, 0⟩, ⟨(some 6), (.mov (.t 40)), none, 0⟩] [])
 (.reg [⟨(some 41), (.mov (.t 1)), none, 2⟩, ⟨(some 42), (.slcS 1 (.t 41) (some (.c (.int 1))) none none), none, 2⟩, ⟨(some 1), (.mov (.t 42)), none, 2⟩] []))
 .skip))
 (.reg [⟨(some 43), (.mov (.t 5)), none, 0⟩, ⟨(some 44), (.mov (.t 5)), none, 0⟩, ⟨(some 45), (.nilck (.t 44)), none, 0⟩, ⟨(some 46), (.fad 1 (.t 45)), none, 0⟩, ⟨(some 47), (.load none (.t 46)), none, 1⟩, ⟨(some 48), (.mov (.t 6)), none, 0⟩, ⟨(some 49), (.slcS 1 (.t 47) none (some (.t 48)) none), none, 0⟩, ⟨(some 50), (.mov (.t 5)), none, 0⟩, ⟨(some 51), (.nilck (.t 50)), none, 0⟩, ⟨(some 52), (.fad 0 (.t 51)), none, 0⟩, ⟨(some 53), (.load none (.t 52)), none, 1⟩, ⟨(some 54), (.mov (.t 6)), none, 0⟩, ⟨(some 55), (.mov (.t 5)), none, 0⟩, ⟨(some 56), (.nilck (.t 55)), none, 0⟩, ⟨(some 57), (.fad 0 (.t 56)), none, 0⟩, ⟨(some 58), (.load none (.t 57)), none, 1⟩, ⟨(some 59), (.len false (.t 58)), none, 0⟩, ⟨(some 60), (.mn (.t 54) (.t 59)), none, 0⟩, ⟨(some 61), (.slcS 1 (.t 53) (some (.t 60)) none none), none, 0⟩, ⟨(some 62), (.bsl false .other 1 2 [(.sl true 0 0 (.agg []) true)] [(0, (1, (.t 49))), (1, (1, (.t 61)))]), none, 0⟩, ⟨(some 63), (.call (.c (.fn 30 [])) [(.t 62)]), none, 2⟩, ⟨(some 64), (.build [(.sl true 0 0 (.agg []) true), (.sl true 0 0 (.agg []) true), (.bool false)] [(0, (1, (.t 63)))]), none, 0⟩, ⟨(some 65), (.nilck (.t 43)), none, 0⟩, ⟨none, (.store (some 3) (.t 65) (.t 64)), none, 2⟩] [])))))))
 (.reg [⟨(some 66), (.bin .add (.t 13) (.c (.int 1))), none, 2⟩, ⟨(some 13), (.mov (.t 66)), none, 2⟩] [])))))))
 (.seq (.reg [⟨(some 67), (.mov (.t 0)), none, 2⟩, ⟨(some 68), (.mov (.t 0)), none, 2⟩, ⟨(some 69), (.nilck (.t 67)), none, 2⟩, ⟨(some 70), (.fad 0 (.t 69)), none, 2⟩, ⟨(some 71), (.fad 2 (.t 70)), none, 2⟩, ⟨none, (.store none (.t 71) (.c (.bool false))), none, 2⟩, ⟨(some 72), (.nilck (.t 68)), none, 2⟩, ⟨(some 73), (.fad 0 (.t 72)), none, 2⟩, ⟨(some 74), (.fad 1 (.t 73)), none, 2⟩, ⟨none, (.store none (.t 74) (.c (.int (-1)))), none, 2⟩] [])
 (.reg [⟨(some 75), (.mov (.t 0)), none, 2⟩, ⟨(some 76), (.mov (.t 0)), none, 2⟩, ⟨(some 77), (.call (.c (.fn 15 [])) [(.t 76)]), none, 2⟩, ⟨(some 78), (.bin .add (.t 77) (.c (.int 1))), none, 2⟩, ⟨(some 79), (.call (.c (.fn 24 [])) [(.t 78)]), none, 2⟩, ⟨(some 80), (.call (.c (.fn 23 [])) [(.t 75), (.c (.int 8)), (.t 79)]), none, 2⟩] [])))
theorem o14 : FnOK Try.prog 14 N14 res14 c14 := ⟨_, _, Try.f14.results.toList, [], pures, Try.func14, show _ = some (Try.f14.body.getD .skip) by kernel_rfl, (Array.toArray_toList).symm, by kernel_rfl, by kernel_rfl, by kernel_rfl, by kernel_rfl, follows, callFunc_enter Try.func14 (by kernel_rfl) (by kernel_rfl)⟩
-- (*sentinel/vault.Vault).Boot
def N15 : Nat := 13
def keep15 : List Nat := [0, 2, 4]
def res15 : List RV := [(.t 2)]
def c15 : CC :=
 (.seq (.reg [⟨(some 2), (.mov (.c (.int 0))), none, 2⟩] [])
 (.seq (.reg [⟨(some 6), (.mov (.t 0)), none, 2⟩, ⟨(some 7), (.call (.c (.fn 31 [])) [(.t 6), (.c (.int 8))]), none, 2⟩, ⟨(some 5), (.mov (.t 7)), none, 2⟩, ⟨(some 8), (.ext (.t 5) 0), none, 2⟩, ⟨(some 9), (.ext (.t 5) 1), none, 2⟩, ⟨(some 4), (.alloc (.agg [(.int 0), (.sl true 0 0 (.agg []) true)])), none, 2⟩, ⟨(some 3), (.mov (.t 8)), none, 2⟩, ⟨none, (.store (some 2) (.t 4) (.t 9)), none, 2⟩] [])
 (.seq (.reg [⟨(some 10), (.fad 1 (.t 4)), none, 2⟩, ⟨(some 11), (.load none (.t 10)), none, 2⟩, ⟨(some 12), (.call (.c (.fn 32 [])) [(.t 11)]), none, 2⟩, ⟨(some 2), (.mov (.t 12)), none, 2⟩] [])
 .ret)))
theorem o15 : FnOK Try.prog 15 N15 res15 c15 := ⟨_, _, Try.f15.results.toList, [], pures, Try.func15, show _ = some (Try.f15.body.getD .skip) by kernel_rfl, (Array.toArray_toList).symm, by kernel_rfl, by kernel_rfl, by kernel_rfl, by kernel_rfl, follows, callFunc_enter Try.func15 (by kernel_rfl) (by kernel_rfl)⟩
-- (*sentinel/vault.Vault).Dead
def N16 : Nat := 8
def keep16 : List Nat := [0, 2]
def res16 : List RV := [(.t 2)]
def c16 : CC :=
 (.seq (.reg [⟨(some 2), (.mov (.c (.bool false))), none, 2⟩] [])
 (.seq (.reg [⟨(some 3), (.mov (.t 0)), none, 2⟩, ⟨(some 4), (.nilck (.t 3)), none, 2⟩, ⟨(some 5), (.fad 0 (.t 4)), none, 2⟩, ⟨(some 6), (.fad 2 (.t 5)), none, 2⟩, ⟨(some 7), (.load none (.t 6)), none, 2⟩, ⟨(some 2), (.mov (.t 7)), none, 2⟩] [])
 .ret))
theorem o16 : FnOK Try.prog 16 N16 res16 c16 := ⟨_, _, Try.f16.results.toList, [], pures, Try.func16, show _ = some (Try.f16.body.getD .skip) by kernel_rfl, (Array.toArray_toList).symm, by kernel_rfl, by kernel_rfl, by kernel_rfl, by kernel_rfl, follows, callFunc_enter Try.func16 (by kernel_rfl) (by kernel_rfl)⟩
-- (*sentinel/vault.Vault).Cells
def N17 : Nat := 38
def keep17 : List Nat := [0, 2, 3, 5, 17, 18, 19, 20]
def res17 : List RV := [(.t 2)]
def c17 : CC :=
 (.seq (.reg [⟨(some 2), (.mov (.c (.sl true 0 0 (.agg []) true))), none, 2⟩] [])
 (.seq (.reg [⟨(some 6), (.mov (.t 0)), none, 2⟩, ⟨(some 7), (.nilck (.t 6)), none, 2⟩, ⟨(some 8), (.fad 0 (.t 7)), none, 2⟩, ⟨(some 9), (.fad 0 (.t 8)), none, 2⟩, ⟨(some 10), (.load none (.t 9)), none, 2⟩, ⟨(some 11), (.len false (.t 10)), none, 2⟩, ⟨(some 12), (.mksl .other 3 56 [(.sl true 0 0 (.agg []) true), (.sl true 0 0 (.agg []) true), (.bool false)] (.c (.int 0)) (.t 11)), none, 2⟩, ⟨(some 3), (.mov (.t 12)), none, 2⟩] [])
 (.seq (.seq (.reg [⟨(some 13), (.mov (.t 0)), none, 2⟩, ⟨(some 14), (.nilck (.t 13)), none, 2⟩, ⟨(some 15), (.fad 0 (.t 14)), none, 2⟩, ⟨(some 16), (.fad 0 (.t 15)), none, 2⟩, ⟨(some 17), (.load none (.t 16)), none, 2⟩, ⟨(some 18), (.len false (.t 17)), none, 2⟩, ⟨(some 19), (.mov (.c (.int 0))), none, 2⟩] [])
 (.block 0 (.loop (.seq (.reg [⟨(some 20), (.bin .lss (.t 19) (.t 18)), none, 2⟩] [])
 (.seq (.cond (.t 20)
 .skip
 (.exit 0))
 (.seq (.block 1 (.seq (.reg [⟨(some 21), (.iadS 3 (.t 17) (.t 19)), none, 2⟩, ⟨(some 22), (.load (some 3) (.t 21)), none, 2⟩, ⟨(some 5), (.alloc (.agg [(.sl true 0 0 (.agg []) true), (.sl true 0 0 (.agg []) true), (.bool false)])), none, 2⟩, ⟨none, (.store (some 3) (.t 5) (.t 22)), none, 2⟩] [])
 (.reg [⟨(some 23), (.mov (.t 3)), none, 0⟩, ⟨(some 24), (.fad 0 (.t 5)), none, 0⟩, ⟨(some 25), (.load none (.t 24)), none, 1⟩, ⟨(some 26), (.call (.c (.fn 33 [])) [(.t 25)]), none, 0⟩, ⟨(some 27), (.fad 1 (.t 5)), none, 0⟩, ⟨(some 28), (.load none (.t 27)), none, 1⟩, ⟨(some 29), (.call (.c (.fn 33 [])) [(.t 28)]), none, 0⟩, ⟨(some 30), (.fad 2 (.t 5)), none, 0⟩, ⟨(some 31), (.load none (.t 30)), none, 1⟩, ⟨(some 32), (.build [(.sl true 0 0 (.agg []) true), (.sl true 0 0 (.agg []) true), (.bool false)] [(0, (1, (.t 26))), (1, (1, (.t 29))), (2, (1, (.t 31)))]), none, 0⟩, ⟨(some 33), (.bsl false .other 3 1 [(.sl true 0 0 (.agg []) true), (.sl true 0 0 (.agg []) true), (.bool false)] [(0, (3, (.t 32)))]), none, 0⟩, ⟨(some 34), (.app true 3 56 (.t 23) (.t 33)), none, 2⟩, ⟨(some 3), (.mov (.t 34)), none, 0⟩] [])))
 (.reg [⟨(some 35), (.bin .add (.t 19) (.c (.int 1))), none, 2⟩, ⟨(some 19), (.mov (.t 35)), none, 2⟩] [])))))))
 (.seq (.reg [⟨(some 36), (.mov (.t 3)), none, 2⟩, ⟨(some 37), (.call (.c (.fn 34 [])) [(.t 36)]), none, 2⟩, ⟨(some 2), (.mov (.t 37)), none, 2⟩] [])
 .ret))))
theorem o17 : FnOK Try.prog 17 N17 res17 c17 := ⟨_, _, Try.f17.results.toList, [], pures, Try.func17, show _ = some (Try.f17.body.getD .skip) by kernel_rfl, (Array.toArray_toList).symm, by kernel_rfl, by kernel_rfl, by kernel_rfl, by kernel_rfl, follows, callFunc_enter Try.func17 (by kernel_rfl) (by kernel_rfl)⟩
-- (*sentinel/vault.Vault).Get
def N18 : Nat := 18
def keep18 : List Nat := [0, 1, 3, 4, 5, 7, 9, 11, 15]
def res18 : List RV := [(.c 4 (some 23)), (.c 5 none)]
def c18 : CC :=
 (.seq (.reg [⟨(some 3), (.box (.t 1)), none, 2⟩, ⟨(some 4), (.alloc (.agg [(.int 0), (.str []), (.sl true 0 0 (.agg []) true), (.u32 0), (.u32 0), (.u32 0), (.u32 0), (.u32 0), (.u32 0), (.u32 0), (.u32 0), (.u32 0), (.u32 0), (.u32 0), (.u32 0), (.u32 0), (.u32 0), (.u32 0), (.u32 0), (.sl true 0 0 (.agg []) true), (.int 0), (.int 0), (.int 0)])), none, 2⟩, ⟨(some 5), (.alloc (.agg [(.bool false)])), none, 2⟩] [])
 (.seq (.seq (.reg [⟨(some 8), (.mov (.t 0)), none, 2⟩, ⟨(some 9), (.call (.c (.fn 35 [])) [(.t 8)]), none, 2⟩] [])
 (.block 0 (.rangeF (.t 9) [10, 11] (.reg [⟨(some 7), (.alloc (.agg [(.int 0), (.str []), (.sl true 0 0 (.agg []) true), (.u32 0), (.u32 0), (.u32 0), (.u32 0), (.u32 0), (.u32 0), (.u32 0), (.u32 0), (.u32 0), (.u32 0), (.u32 0), (.u32 0), (.u32 0), (.u32 0), (.u32 0), (.u32 0), (.sl true 0 0 (.agg []) true), (.int 0), (.int 0), (.int 0)])), none, 2⟩, ⟨none, (.store (some 23) (.t 7) (.t 11)), none, 2⟩] []) (.block 1 (.seq (.reg [⟨(some 12), (.fad 1 (.t 7)), none, 2⟩, ⟨(some 13), (.load none (.t 12)), none, 2⟩, ⟨(some 14), (.load none (.t 3)), none, 2⟩, ⟨(some 15), (.eq false .sc (.t 13) (.t 14)), none, 2⟩] [])
 (.cond (.t 15)
 (.seq (.reg [⟨(some 16), (.load (some 23) (.t 7)), none, 2⟩, ⟨none, (.store (some 23) (.t 4) (.t 16)), none, 2⟩, ⟨none, (.store none (.t 5) (.c (.bool true))), none, 2⟩] [])
 .ret)
 .skip))))))
 (.seq (.reg [⟨(some 17), (.build [(.int 0), (.str []), (.sl true 0 0 (.agg []) true), (.u32 0), (.u32 0), (.u32 0), (.u32 0), (.u32 0), (.u32 0), (.u32 0), (.u32 0), (.u32 0), (.u32 0), (.u32 0), (.u32 0), (.u32 0), (.u32 0), (.u32 0), (.u32 0), (.sl true 0 0 (.agg []) true), (.int 0), (.int 0), (.int 0)] []), none, 2⟩, ⟨none, (.store (some 23) (.t 4) (.t 17)), none, 2⟩, ⟨none, (.store none (.t 5) (.c (.bool false))), none, 2⟩] [])
 .ret)))
theorem o18 : FnOK Try.prog 18 N18 res18 c18 := ⟨_, _, Try.f18.results.toList, [], pures, Try.func18, show _ = some (Try.f18.body.getD .skip) by kernel_rfl, (Array.toArray_toList).symm, by kernel_rfl, by kernel_rfl, by kernel_rfl, by kernel_rfl, follows, callFunc_enter Try.func18 (by kernel_rfl) (by kernel_rfl)⟩
-- sentinel/sentinelref5.Records
def N19 : Nat := 70
def keep19 : List Nat := [0, 1, 2, 3, 4]
def res19 : List RV := [(.t 4)]
def c19 : CC :=
 (.seq (.reg [⟨(some 2), (.box (.t 0)), none, 2⟩, ⟨(some 3), (.box (.t 1)), none, 2⟩, ⟨(some 4), (.mov (.c (.bool false))), none, 2⟩] [])
 (.seq (.reg [⟨(some 5), (.fad 0 (.t 2)), none, 2⟩, ⟨(some 6), (.load none (.t 5)), none, 2⟩, ⟨(some 7), (.fad 0 (.t 3)), none, 2⟩, ⟨(some 8), (.load none (.t 7)), none, 2⟩, ⟨(some 9), (.eq false .sc (.t 6) (.t 8)), none, 2⟩, ⟨(some 10), (.mov (.t 9)), none, 2⟩, ⟨(some 11), (.fad 1 (.t 2)), (some (10, true)), 2⟩, ⟨(some 12), (.load none (.t 11)), (some (10, true)), 2⟩, ⟨(some 13), (.fad 1 (.t 3)), (some (10, true)), 2⟩, ⟨(some 14), (.load none (.t 13)), (some (10, true)), 2⟩, ⟨(some 15), (.eq false .sc (.t 12) (.t 14)), (some (10, true)), 2⟩, ⟨(some 16), (.pick (.t 10) (.t 15) (.c (.bool false))), none, 2⟩, ⟨(some 17), (.mov (.t 16)), none, 2⟩, ⟨(some 18), (.fad 2 (.t 2)), (some (17, true)), 2⟩, ⟨(some 19), (.load none (.t 18)), (some (17, true)), 2⟩, ⟨(some 20), (.conv .bstr (.t 19)), (some (17, true)), 2⟩, ⟨(some 21), (.fad 2 (.t 3)), (some (17, true)), 2⟩, ⟨(some 22), (.load none (.t 21)), (some (17, true)), 2⟩, ⟨(some 23), (.conv .bstr (.t 22)), (some (17, true)), 2⟩, ⟨(some 24), (.eq false .sc (.t 20) (.t 23)), (some (17, true)), 2⟩, ⟨(some 25), (.pick (.t 17) (.t 24) (.c (.bool false))), none, 2⟩, ⟨(some 26), (.mov (.t 25)), none, 2⟩, ⟨(some 27), (.fad 3 (.t 2)), (some (26, true)), 2⟩, ⟨(some 28), (.load (some 8) (.t 27)), (some (26, true)), 2⟩, ⟨(some 29), (.fad 3 (.t 3)), (some (26, true)), 2⟩, ⟨(some 30), (.load (some 8) (.t 29)), (some (26, true)), 2⟩, ⟨(some 31), (.eq false (.arr 8) (.t 28) (.t 30)), (some (26, true)), 2⟩, ⟨(some 32), (.pick (.t 26) (.t 31) (.c (.bool false))), none, 2⟩, ⟨(some 33), (.mov (.t 32)), none, 2⟩, ⟨(some 34), (.fad 11 (.t 2)), (some (33, true)), 2⟩, ⟨(some 35), (.load (some 8) (.t 34)), (some (33, true)), 2⟩, ⟨(some 36), (.fad 11 (.t 3)), (some (33, true)), 2⟩, ⟨(some 37), (.load (some 8) (.t 36)), (some (33, true)), 2⟩, ⟨(some 38), (.eq false (.arr 8) (.t 35) (.t 37)), (some (33, true)), 2⟩, ⟨(some 39), (.pick (.t 33) (.t 38) (.c (.bool false))), none, 2⟩, ⟨(some 40), (.mov (.t 39)), none, 2⟩, ⟨(some 41), (.fad 19 (.t 2)), (some (40, true)), 2⟩, ⟨(some 42), (.load none (.t 41)), (some (40, true)), 2⟩, ⟨(some 43), (.conv .bstr (.t 42)), (some (40, true)), 2⟩, ⟨(some 44), (.fad 19 (.t 3)), (some (40, true)), 2⟩, ⟨(some 45), (.load none (.t 44)), (some (40, true)), 2⟩, ⟨(some 46), (.conv .bstr (.t 45)), (some (40, true)), 2⟩, ⟨(some 47), (.eq false .sc (.t 43) (.t 46)), (some (40, true)), 2⟩, ⟨(some 48), (.pick (.t 40) (.t 47) (.c (.bool false))), none, 2⟩, ⟨(some 49), (.mov (.t 48)), none, 2⟩, ⟨(some 50), (.fad 20 (.t 2)), (some (49, true)), 2⟩, ⟨(some 51), (.load none (.t 50)), (some (49, true)), 2⟩, ⟨(some 52), (.fad 20 (.t 3)), (some (49, true)), 2⟩, ⟨(some 53), (.load none (.t 52)), (some (49, true)), 2⟩, ⟨(some 54), (.eq false .sc (.t 51) (.t 53)), (some (49, true)), 2⟩, ⟨(some 55), (.pick (.t 49) (.t 54) (.c (.bool false))), none, 2⟩, ⟨(some 56), (.mov (.t 55)), none, 2⟩, ⟨(some 57), (.fad 21 (.t 2)), (some (56, true)), 2⟩, ⟨(some 58), (.load none (.t 57)), (some (56, true)), 2⟩, ⟨(some 59), (.fad 21 (.t 3)), (some (56, true)), 2⟩, ⟨(some 60), (.load none (.t 59)), (some (56, true)), 2⟩, ⟨(some 61), (.eq false .sc (.t 58) (.t 60)), (some (56, true)), 2⟩, ⟨(some 62), (.pick (.t 56) (.t 61) (.c (.bool false))), none, 2⟩, ⟨(some 63), (.mov (.t 62)), none, 2⟩, ⟨(some 64), (.fad 22 (.t 2)), (some (63, true)), 2⟩, ⟨(some 65), (.load none (.t 64)), (some (63, true)), 2⟩, ⟨(some 66), (.fad 22 (.t 3)), (some (63, true)), 2⟩, ⟨(some 67), (.load none (.t 66)), (some (63, true)), 2⟩, ⟨(some 68), (.eq false .sc (.t 65) (.t 67)), (some (63, true)), 2⟩, ⟨(some 69), (.pick (.t 63) (.t 68) (.c (.bool false))), none, 2⟩, ⟨(some 4), (.mov (.t 69)), none, 2⟩] [])
 .ret))
theorem o19 : FnOK Try.prog 19 N19 res19 c19 := ⟨_, _, Try.f19.results.toList, [], pures, Try.func19, show _ = some (Try.f19.body.getD .skip) by kernel_rfl, (Array.toArray_toList).symm, by kernel_rfl, by kernel_rfl, by kernel_rfl, by kernel_rfl, follows, callFunc_enter Try.func19 (by kernel_rfl) (by kernel_rfl)⟩
-- sentinel/sentinellaw6.names
def N20 : Nat := 2
def keep20 : List Nat := [0]
def res20 : List RV := [(.t 0)]
def c20 : CC :=
 (.seq (.reg [⟨(some 0), (.mov (.c (.sl true 0 0 (.agg []) true))), none, 2⟩] [])
 (.seq (.reg [⟨(some 1), (.bsl false .other 1 10 [(.str [])] [(0, (1, (.c (.str [97])))), (1, (1, (.c (.str [98])))), (2, (1, (.c (.str [99, 99])))), (3, (1, (.c (.str [100, 33])))), (4, (1, (.c (.str [101])))), (5, (1, (.c (.str [102])))), (6, (1, (.c (.str [103])))), (7, (1, (.c (.str [104])))), (8, (1, (.c (.str [105])))), (9, (1, (.c (.str [106, 106]))))]), none, 2⟩, ⟨(some 0), (.mov (.t 1)), none, 2⟩] [])
 .ret))
theorem o20 : FnOK Try.prog 20 N20 res20 c20 := ⟨_, _, Try.f20.results.toList, [], pures, Try.func20, show _ = some (Try.f20.body.getD .skip) by kernel_rfl, (Array.toArray_toList).symm, by kernel_rfl, by kernel_rfl, by kernel_rfl, by kernel_rfl, follows, callFunc_enter Try.func20 (by kernel_rfl) (by kernel_rfl)⟩
-- (*sentinel/vault.Vault).Names
def N21 : Nat := 19
def keep21 : List Nat := [0, 2, 3, 5, 7, 9]
def res21 : List RV := [(.t 2)]
def c21 : CC :=
 (.seq (.reg [⟨(some 2), (.mov (.c (.sl true 0 0 (.agg []) true))), none, 2⟩] [])
 (.seq (.reg [⟨(some 3), (.alloc (.agg [(.sl true 0 0 (.agg []) true)])), none, 2⟩] [])
 (.seq (.seq (.reg [⟨(some 6), (.mov (.t 0)), none, 2⟩, ⟨(some 7), (.call (.c (.fn 35 [])) [(.t 6)]), none, 2⟩] [])
 (.block 0 (.rangeF (.t 7) [8, 9] (.reg [⟨(some 5), (.alloc (.agg [(.int 0), (.str []), (.sl true 0 0 (.agg []) true), (.u32 0), (.u32 0), (.u32 0), (.u32 0), (.u32 0), (.u32 0), (.u32 0), (.u32 0), (.u32 0), (.u32 0), (.u32 0), (.u32 0), (.u32 0), (.u32 0), (.u32 0), (.u32 0), (.sl true 0 0 (.agg []) true), (.int 0), (.int 0), (.int 0)])), none, 2⟩, ⟨none, (.store (some 23) (.t 5) (.t 9)), none, 2⟩] []) (.block 1 (.reg [⟨(some 10), (.load none (.t 3)), none, 2⟩, ⟨(some 11), (.fad 1 (.t 5)), none, 2⟩, ⟨(some 12), (.load none (.t 11)), none, 2⟩, ⟨(some 13), (.bsl false .other 1 1 [(.str [])] [(0, (1, (.t 12)))]), none, 2⟩, ⟨(some 14), (.app true 1 16 (.t 10) (.t 13)), none, 2⟩, ⟨none, (.store none (.t 3) (.t 14)), none, 2⟩] [])))))
 (.seq (.reg [⟨(some 15), (.load none (.t 3)), none, 2⟩, ⟨(some 16), (.call (.c (.fn 36 [])) [(.t 15)]), none, 2⟩] [])
 (.seq (.reg [⟨(some 17), (.load none (.t 3)), none, 2⟩, ⟨(some 18), (.call (.c (.fn 37 [])) [(.t 17)]), none, 2⟩, ⟨(some 2), (.mov (.t 18)), none, 2⟩] [])
 .ret)))))
theorem o21 : FnOK Try.prog 21 N21 res21 c21 := ⟨_, _, Try.f21.results.toList, [], pures, Try.func21, show _ = some (Try.f21.body.getD .skip) by kernel_rfl, (Array.toArray_toList).symm, by kernel_rfl, by kernel_rfl, by kernel_rfl, by kernel_rfl, follows, callFunc_enter Try.func21 (by kernel_rfl) (by kernel_rfl)⟩
-- (*sentinel/vault.Vault).Gone
def N22 : Nat := 20
def keep22 : List Nat := [0, 1, 4, 5, 10, 15]
def res22 : List RV := [(.t 4)]
def c22 : CC :=
 (.seq (.reg [⟨(some 4), (.mov (.c (.int 0))), none, 2⟩] [])
 (.seq (.seq (.reg [⟨(some 6), (.mov (.t 0)), none, 2⟩, ⟨(some 7), (.nilck (.t 6)), none, 2⟩, ⟨(some 8), (.fad 0 (.t 7)), none, 2⟩, ⟨(some 9), (.fad 2 (.t 8)), none, 2⟩, ⟨(some 10), (.load none (.t 9)), none, 2⟩] [])
 (.cond (.t 10)
 (.seq (.reg [⟨(some 4), (.mov (.c (.int 10))), none, 2⟩] [])
 .ret)
 .skip))
 (.seq (.reg [⟨(some 11), (.mov (.t 0)), none, 2⟩, ⟨(some 12), (.mov (.t 1)), none, 2⟩, ⟨(some 13), (.call (.c (.fn 26 [])) [(.t 11), (.t 12)]), none, 2⟩, ⟨(some 5), (.mov (.t 13)), none, 2⟩] [])
 (.seq (.seq (.reg [⟨(some 14), (.mov (.t 5)), none, 2⟩, ⟨(some 15), (.bin .lss (.t 14) (.c (.int 0))), none, 2⟩] [])
 (.cond (.t 15)
 (.seq (.reg [⟨(some 4), (.mov (.c (.int 3))), none, 2⟩] [])
 .ret)
 .skip))
 (.seq (.reg [⟨(some 16), (.mov (.t 0)), none, 2⟩, ⟨(some 17), (.mov (.t 5)), none, 2⟩, ⟨(some 18), (.call (.c (.fn 23 [])) [(.t 16), (.t 17), (.c (.sl true 0 0 (.agg []) true))]), none, 2⟩, ⟨(some 19), (.call (.c (.fn 28 [])) [(.t 18)]), none, 2⟩, ⟨(some 4), (.mov (.t 19)), none, 2⟩] [])
 .ret)))))
theorem o22 : FnOK Try.prog 22 N22 res22 c22 := ⟨_, _, Try.f22.results.toList, [], pures, Try.func22, show _ = some (Try.f22.body.getD .skip) by kernel_rfl, (Array.toArray_toList).symm, by kernel_rfl, by kernel_rfl, by kernel_rfl, by kernel_rfl, follows, callFunc_enter Try.func22 (by kernel_rfl) (by kernel_rfl)⟩
-- (*sentinel/vault.Vault).write
def N23 : Nat := 47
def keep23 : List Nat := [0, 1, 2, 6, 7, 8, 9, 10, 24]
def res23 : List RV := [(.t 6)]
def c23 : CC :=
 (.seq (.reg [⟨(some 6), (.mov (.c (.bool false))), none, 2⟩] [])
 (.seq (.reg [⟨(some 12), (.mov (.t 0)), none, 2⟩, ⟨(some 13), (.mov (.t 1)), none, 2⟩, ⟨(some 14), (.call (.c (.fn 31 [])) [(.t 12), (.t 13)]), none, 2⟩, ⟨(some 11), (.mov (.t 14)), none, 2⟩, ⟨(some 15), (.ext (.t 11) 0), none, 2⟩, ⟨(some 16), (.ext (.t 11) 1), none, 2⟩, ⟨(some 8), (.alloc (.agg [(.int 0), (.sl true 0 0 (.agg []) true)])), none, 2⟩, ⟨(some 7), (.mov (.t 15)), none, 2⟩, ⟨none, (.store (some 2) (.t 8) (.t 16)), none, 2⟩] [])
 (.seq (.reg [⟨(some 17), (.mov (.t 1)), none, 2⟩, ⟨(some 18), (.bin .mul (.c (.int 2)) (.t 17)), none, 2⟩, ⟨(some 19), (.bin .add (.t 18) (.c (.int 1))), none, 2⟩, ⟨(some 20), (.mov (.t 7)), none, 2⟩, ⟨(some 21), (.mx (.t 20) (.c (.int 0))), none, 2⟩, ⟨(some 22), (.bin .sub (.t 19) (.t 21)), none, 2⟩, ⟨(some 9), (.mov (.t 22)), none, 2⟩] [])
 (.seq (.seq (.reg [⟨(some 23), (.mov (.t 7)), none, 2⟩, ⟨(some 24), (.bin .lss (.t 23) (.c (.int 0))), none, 2⟩] [])
 (.cond (.t 24)
 (.reg [⟨(some 25), (.mov (.t 1)), none, 2⟩, ⟨(some 26), (.bin .mul (.c (.int 2)) (.t 25)), none, 2⟩, ⟨(some 9), (.mov (.t 26)), none, 2⟩] [])
 .skip))
 (.seq (.reg [⟨(some 27), (.mov (.t 9)), none, 2⟩, ⟨(some 28), (.fad 0 (.t 8)), none, 2⟩, ⟨(some 29), (.load none (.t 28)), none, 2⟩, ⟨(some 30), (.bin .add (.t 29) (.c (.int 1))), none, 2⟩, ⟨(some 31), (.mov (.t 2)), none, 2⟩, ⟨(some 32), (.build [(.int 0), (.sl true 0 0 (.agg []) true)] [(0, (1, (.t 30))), (1, (1, (.t 31)))]), none, 2⟩, ⟨(some 33), (.call (.c (.fn 38 [])) [(.t 27), (.t 32)]), none, 2⟩, ⟨(some 10), (.alloc (.agg [(.sl true 0 0 (.agg []) true)])), none, 2⟩, ⟨none, (.store none (.t 10) (.t 33)), none, 2⟩] [])
 (.seq (.reg [⟨(some 34), (.mov (.t 0)), none, 2⟩, ⟨(some 35), (.nilck (.t 34)), none, 2⟩, ⟨(some 36), (.fad 0 (.t 35)), none, 2⟩, ⟨(some 37), (.mov (.t 9)), none, 2⟩, ⟨(some 38), (.mkf 40 [(.t 10)]), none, 2⟩, ⟨(some 39), (.call (.c (.fn 39 [])) [(.t 36), (.t 37), (.t 38)]), none, 2⟩, ⟨(some 40), (.mov (.t 39)), none, 2⟩, ⟨(some 41), (.mov (.t 0)), (some (40, true)), 2⟩, ⟨(some 42), (.nilck (.t 41)), (some (40, true)), 2⟩, ⟨(some 43), (.fad 0 (.t 42)), (some (40, true)), 2⟩, ⟨(some 44), (.mov (.t 9)), (some (40, true)), 2⟩, ⟨(some 45), (.call (.c (.fn 39 [])) [(.t 43), (.t 44), (.c (.fn 41 []))]), (some (40, true)), 2⟩, ⟨(some 46), (.pick (.t 40) (.t 45) (.c (.bool false))), none, 2⟩, ⟨(some 6), (.mov (.t 46)), none, 2⟩] [])
 .ret))))))
theorem o23 : FnOK Try.prog 23 N23 res23 c23 := ⟨_, _, Try.f23.results.toList, [], pures, Try.func23, show _ = some (Try.f23.body.getD .skip) by kernel_rfl, (Array.toArray_toList).symm, by kernel_rfl, by kernel_rfl, by kernel_rfl, by kernel_rfl, follows, callFunc_enter Try.func23 (by kernel_rfl) (by kernel_rfl)⟩
-- sentinel/vault.eight
def N24 : Nat := 7
def keep24 : List Nat := [0, 2]
def res24 : List RV := [(.t 2)]
def c24 : CC :=
 (.seq (.reg [⟨(some 2), (.mov (.c (.sl true 0 0 (.agg []) true))), none, 2⟩] [])
 (.seq (.reg [⟨(some 3), (.mov (.t 0)), none, 2⟩, ⟨(some 4), (.call (.c (.fn 43 [])) [(.t 3)]), none, 2⟩, ⟨(some 5), (.call (.c (.fn 42 [])) [(.t 4)]), none, 2⟩, ⟨(some 6), (.slcS 1 (.t 5) (some (.c (.int 24))) none none), none, 2⟩, ⟨(some 2), (.mov (.t 6)), none, 2⟩] [])
 .ret))
theorem o24 : FnOK Try.prog 24 N24 res24 c24 := ⟨_, _, Try.f24.results.toList, [], pures, Try.func24, show _ = some (Try.f24.body.getD .skip) by kernel_rfl, (Array.toArray_toList).symm, by kernel_rfl, by kernel_rfl, by kernel_rfl, by kernel_rfl, follows, callFunc_enter Try.func24 (by kernel_rfl) (by kernel_rfl)⟩
-- sentinel/wire.Record
def N25 : Nat := 119
def keep25 : List Nat := [0, 1, 2, 3, 4, 6, 64, 76, 77, 78, 79]
def res25 : List RV := [(.t 2), (.t 3)]
def c25 : CC :=
 (.seq (.reg [⟨(some 1), (.box (.t 0)), none, 2⟩, ⟨(some 2), (.mov (.c (.sl true 0 0 (.agg []) true))), none, 2⟩, ⟨(some 3), (.mov (.c (.bool false))), none, 2⟩] [])
 (.seq (.seq (.reg [⟨(some 7), (.fad 0 (.t 1)), none, 2⟩, ⟨(some 8), (.load none (.t 7)), none, 2⟩, ⟨(some 9), (.eq true .sc (.t 8) (.c (.int 1))), none, 2⟩, ⟨(some 10), (.mov (.t 9)), none, 2⟩, ⟨(some 11), (.fad 0 (.t 1)), (some (10, true)), 2⟩, ⟨(some 12), (.load none (.t 11)), (some (10, true)), 2⟩, ⟨(some 13), (.eq true .sc (.t 12) (.c (.int 2))), (some (10, true)), 2⟩, ⟨(some 14), (.pick (.t 10) (.t 13) (.c (.bool false))), none, 2⟩, ⟨(some 15), (.mov (.t 14)), none, 2⟩, ⟨(some 16), (.fad 1 (.t 1)), (some (15, false)), 2⟩, ⟨(some 17), (.load none (.t 16)), (some (15, false)), 2⟩, ⟨(some 18), (.call (.c (.fn 44 [])) [(.t 17)]), (some (15, false)), 2⟩, ⟨(some 19), (.un .not (.t 18)), (some (15, false)), 2⟩, ⟨(some 20), (.pick (.t 15) (.c (.bool true)) (.t 19)), none, 2⟩, ⟨(some 21), (.mov (.t 20)), none, 2⟩, ⟨(some 22), (.fad 2 (.t 1)), (some (21, false)), 2⟩, ⟨(some 23), (.load none (.t 22)), (some (21, false)), 2⟩, ⟨(some 24), (.len false (.t 23)), (some (21, false)), 2⟩, ⟨(some 25), (.bin .gtr (.t 24) (.c (.int 16))), (some (21, false)), 2⟩, ⟨(some 26), (.pick (.t 21) (.c (.bool true)) (.t 25)), none, 2⟩, ⟨(some 27), (.mov (.t 26)), none, 2⟩, ⟨(some 28), (.fad 19 (.t 1)), (some (27, false)), 2⟩, ⟨(some 29), (.load none (.t 28)), (some (27, false)), 2⟩, ⟨(some 30), (.len false (.t 29)), (some (27, false)), 2⟩, ⟨(some 31), (.bin .gtr (.t 30) (.c (.int 48))), (some (27, false)), 2⟩, ⟨(some 32), (.pick (.t 27) (.c (.bool true)) (.t 31)), none, 2⟩, ⟨(some 33), (.mov (.t 32)), none, 2⟩, ⟨(some 34), (.fad 3 (.t 1)), (some (33, false)), 2⟩, ⟨(some 35), (.load (some 8) (.t 34)), (some (33, false)), 2⟩, ⟨(some 36), (.call (.c (.fn 45 [])) [(.t 35)]), (some (33, false)), 2⟩, ⟨(some 37), (.bin .gtr (.t 36) (.c (.int 32))), (some (33, false)), 2⟩, ⟨(some 38), (.pick (.t 33) (.c (.bool true)) (.t 37)), none, 2⟩, ⟨(some 39), (.mov (.t 38)), none, 2⟩, ⟨(some 40), (.fad 11 (.t 1)), (some (39, false)), 2⟩, ⟨(some 41), (.load (some 8) (.t 40)), (some (39, false)), 2⟩, ⟨(some 42), (.call (.c (.fn 45 [])) [(.t 41)]), (some (39, false)), 2⟩, ⟨(some 43), (.bin .gtr (.t 42) (.c (.int 32))), (some (39, false)), 2⟩, ⟨(some 44), (.pick (.t 39) (.c (.bool true)) (.t 43)), none, 2⟩, ⟨(some 45), (.mov (.t 44)), none, 2⟩, ⟨(some 46), (.fad 20 (.t 1)), (some (45, false)), 2⟩, ⟨(some 47), (.load none (.t 46)), (some (45, false)), 2⟩, ⟨(some 48), (.bin .lss (.t 47) (.c (.int 0))), (some (45, false)), 2⟩, ⟨(some 49), (.pick (.t 45) (.c (.bool true)) (.t 48)), none, 2⟩, ⟨(some 50), (.mov (.t 49)), none, 2⟩, ⟨(some 51), (.fad 20 (.t 1)), (some (50, false)), 2⟩, ⟨(some 52), (.load none (.t 51)), (some (50, false)), 2⟩, ⟨(some 53), (.bin .gtr (.t 52) (.c (.int 255))), (some (50, false)), 2⟩, ⟨(some 54), (.pick (.t 50) (.c (.bool true)) (.t 53)), none, 2⟩, ⟨(some 55), (.mov (.t 54)), none, 2⟩, ⟨(some 56), (.fad 21 (.t 1)), (some (55, false)), 2⟩, ⟨(some 57), (.load none (.t 56)), (some (55, false)), 2⟩, ⟨(some 58), (.bin .lss (.t 57) (.c (.int 0))), (some (55, false)), 2⟩, ⟨(some 59), (.pick (.t 55) (.c (.bool true)) (.t 58)), none, 2⟩, ⟨(some 60), (.mov (.t 59)), none, 2⟩, ⟨(some 61), (.fad 22 (.t 1)), (some (60, false)), 2⟩, ⟨(some 62), (.load none (.t 61)), (some (60, false)), 2⟩, ⟨(some 63), (.bin .lss (.t 62) (.c (.int 0))), (some (60, false)), 2⟩, ⟨(some 64), (.pick (.t 60) (.c (.bool true)) (.t 63)), none, 2⟩] [])
 (.cond (.t 64)
 (.seq (.reg [⟨(some 2), (.mov (.c (.sl true 0 0 (.agg []) true))), none, 2⟩, ⟨(some 3), (.mov (.c (.bool false))), none, 2⟩] [])
 .ret)
 .skip))
 (.seq (.reg [⟨(some 65), (.fad 0 (.t 1)), none, 2⟩, ⟨(some 66), (.load none (.t 65)), none, 2⟩, ⟨(some 67), (.conv .iu8 (.t 66)), none, 2⟩, ⟨(some 68), (.bsl false .u8 1 1 [(.u8 0)] [(0, (1, (.t 67)))]), none, 2⟩, ⟨(some 4), (.mov (.t 68)), none, 2⟩] [])
 (.seq (.seq (.reg [⟨(some 69), (.fad 1 (.t 1)), none, 2⟩, ⟨(some 70), (.load none (.t 69)), none, 2⟩, ⟨(some 71), (.conv (.strb false) (.t 70)), none, 2⟩, ⟨(some 72), (.fad 2 (.t 1)), none, 2⟩, ⟨(some 73), (.load none (.t 72)), none, 2⟩, ⟨(some 74), (.fad 19 (.t 1)), none, 2⟩, ⟨(some 75), (.load none (.t 74)), none, 2⟩, ⟨(some 76), (.bsl false .other 1 3 [(.sl true 0 0 (.agg []) true)] [(0, (1, (.t 71))), (1, (1, (.t 73))), (2, (1, (.t 75)))]), none, 2⟩, ⟨(some 77), (.len false (.t 76)), none, 2⟩, ⟨(some 78), (.mov (.c (.int 0))), none, 2⟩] [])
 (.block 0 (.loop (.seq (.reg [⟨(some 79), (.bin .lss (.t 78) (.t 77)), none, 2⟩] [])
 (.seq (.cond (.t 79)
 .skip
 (.exit 0))
 (.seq (.block 1 (.seq (.reg [⟨(some 80), (.iadS 1 (.t 76) (.t 78)), none, 2⟩, ⟨(some 81), (.load none (.t 80)), none, 2⟩, ⟨(some 6), (.mov (.t 81)), none, 2⟩] [])
 (.reg [⟨(some 82), (.mov (.t 4)), none, 2⟩, ⟨(some 83), (.mov (.t 6)), none, 2⟩, ⟨(some 84), (.len false (.t 83)), none, 2⟩, ⟨(some 85), (.conv .iu8 (.t 84)), none, 2⟩, ⟨(some 86), (.bsl false .u8 1 1 [(.u8 0)] [(0, (1, (.t 85)))]), none, 2⟩, ⟨(some 87), (.app true 1 1 (.t 82) (.t 86)), none, 2⟩, ⟨(some 88), (.mov (.t 6)), none, 2⟩, ⟨(some 89), (.app true 1 1 (.t 87) (.t 88)), none, 2⟩, ⟨(some 4), (.mov (.t 89)), none, 2⟩] [])))
 (.reg [⟨(some 90), (.bin .add (.t 78) (.c (.int 1))), none, 2⟩, ⟨(some 78), (.mov (.t 90)), none, 2⟩] [])))))))
 (.seq (.reg [⟨(some 91), (.mov (.t 4)), none, 0⟩, ⟨(some 92), (.fad 3 (.t 1)), none, 0⟩, ⟨(some 93), (.load (some 8) (.t 92)), none, 1⟩, ⟨(some 94), (.call (.c (.fn 46 [])) [(.t 93), (.c (.int 4))]), none, 0⟩, ⟨(some 95), (.app true 1 1 (.t 91) (.t 94)), none, 2⟩, ⟨(some 96), (.fad 11 (.t 1)), none, 0⟩, ⟨(some 97), (.load (some 8) (.t 96)), none, 1⟩, ⟨(some 98), (.call (.c (.fn 46 [])) [(.t 97), (.c (.int 4))]), none, 0⟩, ⟨(some 99), (.app true 1 1 (.t 95) (.t 98)), none, 2⟩, ⟨(some 4), (.mov (.t 99)), none, 0⟩]
 [(96, 91)])
 (.seq (.reg [⟨(some 100), (.mov (.t 4)), none, 2⟩, ⟨(some 101), (.fad 20 (.t 1)), none, 2⟩, ⟨(some 102), (.load none (.t 101)), none, 2⟩, ⟨(some 103), (.conv .iu8 (.t 102)), none, 2⟩, ⟨(some 104), (.bsl false .u8 1 1 [(.u8 0)] [(0, (1, (.t 103)))]), none, 2⟩, ⟨(some 105), (.app true 1 1 (.t 100) (.t 104)), none, 2⟩, ⟨(some 4), (.mov (.t 105)), none, 2⟩] [])
 (.seq (.reg [⟨(some 106), (.mov (.t 4)), none, 0⟩, ⟨(some 107), (.fad 21 (.t 1)), none, 0⟩, ⟨(some 108), (.load none (.t 107)), none, 1⟩, ⟨(some 109), (.call (.c (.fn 43 [])) [(.t 108)]), none, 0⟩, ⟨(some 110), (.call (.c (.fn 46 [])) [(.t 109), (.c (.int 8))]), none, 0⟩, ⟨(some 111), (.app true 1 1 (.t 106) (.t 110)), none, 2⟩, ⟨(some 112), (.fad 22 (.t 1)), none, 0⟩, ⟨(some 113), (.load none (.t 112)), none, 1⟩, ⟨(some 114), (.call (.c (.fn 43 [])) [(.t 113)]), none, 0⟩, ⟨(some 115), (.call (.c (.fn 46 [])) [(.t 114), (.c (.int 8))]), none, 0⟩, ⟨(some 116), (.app true 1 1 (.t 111) (.t 115)), none, 2⟩, ⟨(some 4), (.mov (.t 116)), none, 0⟩]
 [(112, 106)])
 (.seq (.reg [⟨(some 117), (.mov (.t 4)), none, 2⟩, ⟨(some 118), (.call (.c (.fn 33 [])) [(.t 117)]), none, 2⟩, ⟨(some 2), (.mov (.t 118)), none, 2⟩, ⟨(some 3), (.mov (.c (.bool true))), none, 2⟩] [])
 .ret))))))))
theorem o25 : FnOK Try.prog 25 N25 res25 c25 := ⟨_, _, Try.f25.results.toList, [], pures, Try.func25, show _ = some (Try.f25.body.getD .skip) by kernel_rfl, (Array.toArray_toList).symm, by kernel_rfl, by kernel_rfl, by kernel_rfl, by kernel_rfl, follows, callFunc_enter Try.func25 (by kernel_rfl) (by kernel_rfl)⟩
-- (*sentinel/vault.Vault).find
def N26 : Nat := 16
def keep26 : List Nat := [0, 1, 3, 4, 5, 6, 8, 9, 10, 14]
def res26 : List RV := [(.c 4 none)]
def c26 : CC :=
 (.seq (.reg [⟨(some 3), (.box (.t 1)), none, 2⟩, ⟨(some 4), (.alloc (.agg [(.int 0)])), none, 2⟩] [])
 (.seq (.seq (.reg [⟨(some 7), (.mov (.t 0)), none, 2⟩, ⟨(some 8), (.call (.c (.fn 35 [])) [(.t 7)]), none, 2⟩] [])
 (.block 0 (.rangeF (.t 8) [9, 10] (.seq (.reg [⟨(some 5), (.mov (.t 9)), none, 2⟩] [])
 (.reg [⟨(some 6), (.alloc (.agg [(.int 0), (.str []), (.sl true 0 0 (.agg []) true), (.u32 0), (.u32 0), (.u32 0), (.u32 0), (.u32 0), (.u32 0), (.u32 0), (.u32 0), (.u32 0), (.u32 0), (.u32 0), (.u32 0), (.u32 0), (.u32 0), (.u32 0), (.u32 0), (.sl true 0 0 (.agg []) true), (.int 0), (.int 0), (.int 0)])), none, 2⟩, ⟨none, (.store (some 23) (.t 6) (.t 10)), none, 2⟩] [])) (.block 1 (.seq (.reg [⟨(some 11), (.fad 1 (.t 6)), none, 2⟩, ⟨(some 12), (.load none (.t 11)), none, 2⟩, ⟨(some 13), (.load none (.t 3)), none, 2⟩, ⟨(some 14), (.eq false .sc (.t 12) (.t 13)), none, 2⟩] [])
 (.cond (.t 14)
 (.seq (.reg [⟨(some 15), (.mov (.t 5)), none, 2⟩, ⟨none, (.store none (.t 4) (.t 15)), none, 2⟩] [])
 .ret)
 .skip))))))
 (.seq (.reg [⟨none, (.store none (.t 4) (.c (.int (-1)))), none, 2⟩] [])
 .ret)))
theorem o26 : FnOK Try.prog 26 N26 res26 c26 := ⟨_, _, Try.f26.results.toList, [], pures, Try.func26, show _ = some (Try.f26.body.getD .skip) by kernel_rfl, (Array.toArray_toList).symm, by kernel_rfl, by kernel_rfl, by kernel_rfl, by kernel_rfl, follows, callFunc_enter Try.func26 (by kernel_rfl) (by kernel_rfl)⟩
-- (*sentinel/vault.Vault).free
def N27 : Nat := 21
def keep27 : List Nat := [0, 2, 3, 5, 6, 7, 18]
def res27 : List RV := [(.t 2)]
def c27 : CC :=
 (.seq (.reg [⟨(some 2), (.mov (.c (.int 0))), none, 2⟩] [])
 (.seq (.seq (.reg [⟨(some 6), (.mov (.c (.int 0))), none, 2⟩] [])
 (.block 0 (.loop (.seq (.reg [⟨(some 7), (.bin .lss (.t 6) (.c (.int 8))), none, 2⟩] [])
 (.seq (.cond (.t 7)
 .skip
 (.exit 0))
 (.seq (.block 1 (.seq (.reg [⟨(some 8), (.mov (.t 6)), none, 2⟩, ⟨(some 3), (.mov (.t 8)), none, 2⟩] [])
 (.seq (.reg [⟨(some 10), (.mov (.t 0)), none, 2⟩, ⟨(some 11), (.mov (.t 3)), none, 2⟩, ⟨(some 12), (.call (.c (.fn 31 [])) [(.t 10), (.t 11)]), none, 2⟩, ⟨(some 9), (.mov (.t 12)), none, 2⟩, ⟨(some 13), (.ext (.t 9) 0), none, 2⟩, ⟨(some 14), (.ext (.t 9) 1), none, 2⟩, ⟨(some 5), (.alloc (.agg [(.int 0), (.sl true 0 0 (.agg []) true)])), none, 2⟩, ⟨(some 4), (.mov (.t 13)), none, 2⟩, ⟨none, (.store (some 2) (.t 5) (.t 14)), none, 2⟩] [])
 (.seq (.reg [⟨(some 15), (.fad 1 (.t 5)), none, 2⟩, ⟨(some 16), (.load none (.t 15)), none, 2⟩, ⟨(some 17), (.len false (.t 16)), none, 2⟩, ⟨(some 18), (.eq false .sc (.t 17) (.c (.int 0))), none, 2⟩] [])
 (.cond (.t 18)
 (.seq (.reg [⟨(some 19), (.mov (.t 3)), none, 2⟩, ⟨(some 2), (.mov (.t 19)), none, 2⟩] [])
 .ret)
 .skip)))))
 (.reg [⟨(some 20), (.bin .add (.t 6) (.c (.int 1))), none, 2⟩, ⟨(some 6), (.mov (.t 20)), none, 2⟩] [])))))))
 (.seq (.reg [⟨(some 2), (.mov (.c (.int (-1)))), none, 2⟩] [])
 .ret)))
theorem o27 : FnOK Try.prog 27 N27 res27 c27 := ⟨_, _, Try.f27.results.toList, [], pures, Try.func27, show _ = some (Try.f27.body.getD .skip) by kernel_rfl, (Array.toArray_toList).symm, by kernel_rfl, by kernel_rfl, by kernel_rfl, by kernel_rfl, follows, callFunc_enter Try.func27 (by kernel_rfl) (by kernel_rfl)⟩
-- sentinel/vault.told
def N28 : Nat := 4
def keep28 : List Nat := [0, 2, 3]
def res28 : List RV := [(.t 2)]
def c28 : CC :=
 (.seq (.reg [⟨(some 2), (.mov (.c (.int 0))), none, 2⟩] [])
 (.seq (.seq (.reg [⟨(some 3), (.mov (.t 0)), none, 2⟩] [])
 (.cond (.t 3)
 (.seq (.reg [⟨(some 2), (.mov (.c (.int 0))), none, 2⟩] [])
 .ret)
 .skip))
 (.seq (.reg [⟨(some 2), (.mov (.c (.int 10))), none, 2⟩] [])
 .ret)))
theorem o28 : FnOK Try.prog 28 N28 res28 c28 := ⟨_, _, Try.f28.results.toList, [], pures, Try.func28, show _ = some (Try.f28.body.getD .skip) by kernel_rfl, (Array.toArray_toList).symm, by kernel_rfl, by kernel_rfl, by kernel_rfl, by kernel_rfl, follows, callFunc_enter Try.func28 (by kernel_rfl) (by kernel_rfl)⟩
-- sentinel/sentinellaw5.Record
def N29 : Nat := 57
def keep29 : List Nat := [0, 1, 2, 6, 7]
def res29 : List RV := [(.c 6 (some 23))]
def c29 : CC :=
 (.seq (.reg [⟨(some 6), (.alloc (.agg [(.int 0), (.str []), (.sl true 0 0 (.agg []) true), (.u32 0), (.u32 0), (.u32 0), (.u32 0), (.u32 0), (.u32 0), (.u32 0), (.u32 0), (.u32 0), (.u32 0), (.u32 0), (.u32 0), (.u32 0), (.u32 0), (.u32 0), (.u32 0), (.sl true 0 0 (.agg []) true), (.int 0), (.int 0), (.int 0)])), none, 2⟩] [])
 (.seq (.reg [⟨(some 8), (.mov (.t 0)), none, 2⟩, ⟨(some 9), (.call (.c (.fn 47 [])) [(.t 8), (.c (.int 2))]), none, 2⟩, ⟨(some 10), (.bin .add (.c (.int 1)) (.t 9)), none, 2⟩, ⟨(some 11), (.mov (.t 1)), none, 2⟩, ⟨(some 12), (.call (.c (.fn 48 [])) [(.t 11)]), none, 2⟩, ⟨(some 13), (.mov (.t 0)), none, 2⟩, ⟨(some 14), (.bin .quo (.t 13) (.c (.int 2))), none, 2⟩, ⟨(some 15), (.call (.c (.fn 47 [])) [(.t 14), (.c (.int 4294967296))]), none, 2⟩, ⟨(some 16), (.call (.c (.fn 49 [])) [(.t 15)]), none, 2⟩, ⟨(some 17), (.mov (.t 0)), none, 2⟩, ⟨(some 18), (.bin .quo (.t 17) (.c (.int 7))), none, 2⟩, ⟨(some 19), (.call (.c (.fn 47 [])) [(.t 18), (.c (.int 4294967296))]), none, 2⟩, ⟨(some 20), (.call (.c (.fn 49 [])) [(.t 19)]), none, 2⟩, ⟨(some 21), (.mov (.t 0)), none, 2⟩, ⟨(some 22), (.bin .quo (.t 21) (.c (.int 11))), none, 2⟩, ⟨(some 23), (.call (.c (.fn 47 [])) [(.t 22), (.c (.int 6))]), none, 2⟩, ⟨(some 24), (.mov (.t 0)), none, 2⟩, ⟨(some 25), (.bin .quo (.t 24) (.c (.int 13))), none, 2⟩, ⟨(some 26), (.call (.c (.fn 47 [])) [(.t 25), (.c (.int 1000))]), none, 2⟩, ⟨(some 27), (.mov (.t 0)), none, 2⟩, ⟨(some 28), (.bin .quo (.t 27) (.c (.int 17))), none, 2⟩, ⟨(some 29), (.call (.c (.fn 47 [])) [(.t 28), (.c (.int 1099511627776))]), none, 2⟩, ⟨(some 30), (.build [(.int 0), (.str []), (.sl true 0 0 (.agg []) true), (.u32 0), (.u32 0), (.u32 0), (.u32 0), (.u32 0), (.u32 0), (.u32 0), (.u32 0), (.u32 0), (.u32 0), (.u32 0), (.u32 0), (.u32 0), (.u32 0), (.u32 0), (.u32 0), (.sl true 0 0 (.agg []) true), (.int 0), (.int 0), (.int 0)] [(0, (1, (.t 10))), (1, (1, (.t 12))), (3, (8, (.t 16))), (11, (8, (.t 20))), (20, (1, (.t 23))), (21, (1, (.t 26))), (22, (1, (.t 29)))]), none, 2⟩, ⟨(some 7), (.alloc (.agg [(.int 0), (.str []), (.sl true 0 0 (.agg []) true), (.u32 0), (.u32 0), (.u32 0), (.u32 0), (.u32 0), (.u32 0), (.u32 0), (.u32 0), (.u32 0), (.u32 0), (.u32 0), (.u32 0), (.u32 0), (.u32 0), (.u32 0), (.u32 0), (.sl true 0 0 (.agg []) true), (.int 0), (.int 0), (.int 0)])), none, 2⟩, ⟨none, (.store (some 23) (.t 7) (.t 30)), none, 2⟩] [])
 (.seq (.reg [⟨(some 31), (.fad 2 (.t 7)), none, 0⟩, ⟨(some 32), (.load none (.t 31)), none, 1⟩, ⟨(some 33), (.mov (.t 2)), none, 0⟩, ⟨(some 34), (.mov (.t 0)), none, 0⟩, ⟨(some 35), (.mov (.t 2)), none, 0⟩, ⟨(some 36), (.len false (.t 35)), none, 0⟩, ⟨(some 37), (.mn (.t 36) (.c (.int 16))), none, 0⟩, ⟨(some 38), (.bin .add (.t 37) (.c (.int 1))), none, 0⟩, ⟨(some 39), (.call (.c (.fn 47 [])) [(.t 34), (.t 38)]), none, 0⟩, ⟨(some 40), (.slcS 1 (.t 33) none (some (.t 39)) none), none, 0⟩, ⟨(some 41), (.app true 1 1 (.t 32) (.t 40)), none, 2⟩, ⟨(some 42), (.fad 2 (.t 7)), none, 0⟩, ⟨none, (.store none (.t 42) (.t 41)), none, 2⟩] [])
 (.seq (.reg [⟨(some 43), (.fad 19 (.t 7)), none, 0⟩, ⟨(some 44), (.load none (.t 43)), none, 1⟩, ⟨(some 45), (.mov (.t 2)), none, 0⟩, ⟨(some 46), (.mov (.t 0)), none, 0⟩, ⟨(some 47), (.bin .quo (.t 46) (.c (.int 3))), none, 0⟩, ⟨(some 48), (.mov (.t 2)), none, 0⟩, ⟨(some 49), (.len false (.t 48)), none, 0⟩, ⟨(some 50), (.mn (.t 49) (.c (.int 48))), none, 0⟩, ⟨(some 51), (.bin .add (.t 50) (.c (.int 1))), none, 0⟩, ⟨(some 52), (.call (.c (.fn 47 [])) [(.t 47), (.t 51)]), none, 0⟩, ⟨(some 53), (.slcS 1 (.t 45) none (some (.t 52)) none), none, 0⟩, ⟨(some 54), (.app true 1 1 (.t 44) (.t 53)), none, 2⟩, ⟨(some 55), (.fad 19 (.t 7)), none, 0⟩, ⟨none, (.store none (.t 55) (.t 54)), none, 2⟩] [])
 (.seq (.reg [⟨(some 56), (.load (some 23) (.t 7)), none, 2⟩, ⟨none, (.store (some 23) (.t 6) (.t 56)), none, 2⟩] [])
 .ret)))))
theorem o29 : FnOK Try.prog 29 N29 res29 c29 := ⟨_, _, Try.f29.results.toList, [], pures, Try.func29, show _ = some (Try.f29.body.getD .skip) by kernel_rfl, (Array.toArray_toList).symm, by kernel_rfl, by kernel_rfl, by kernel_rfl, by kernel_rfl, follows, callFunc_enter Try.func29 (by kernel_rfl) (by kernel_rfl)⟩
-- slices.Concat[[]byte,byte]
def N30 : Nat := 36
def keep30 : List Nat := [0, 2, 3, 5, 6, 8, 9, 10, 11, 12, 20, 25, 26, 27, 28]
def res30 : List RV := [(.t 2)]
def c30 : CC :=
 (.seq (.reg [⟨(some 2), (.mov (.c (.sl true 0 0 (.agg []) true))), none, 2⟩] [])
 (.seq (.reg [⟨(some 3), (.mov (.c (.int 0))), none, 2⟩] [])
 (.seq (.seq (.reg [⟨(some 9), (.mov (.t 0)), none, 2⟩, ⟨(some 10), (.len false (.t 9)), none, 2⟩, ⟨(some 11), (.mov (.c (.int 0))), none, 2⟩] [])
 (.block 0 (.loop (.seq (.reg [⟨(some 12), (.bin .lss (.t 11) (.t 10)), none, 2⟩] [])
 (.seq (.cond (.t 12)
 .skip
 (.exit 0))
 (.seq (.block 1 (.seq (.reg [⟨(some 13), (.iadS 1 (.t 9) (.t 11)), none, 2⟩, ⟨(some 14), (.load none (.t 13)), none, 2⟩, ⟨(some 5), (.mov (.t 14)), none, 2⟩] [])
 (.seq (.reg [⟨(some 15), (.mov (.t 3)), none, 2⟩, ⟨(some 16), (.mov (.t 5)), none, 2⟩, ⟨(some 17), (.len false (.t 16)), none, 2⟩, ⟨(some 18), (.bin .add (.t 15) (.t 17)), none, 2⟩, ⟨(some 3), (.mov (.t 18)), none, 2⟩] [])
 (.seq (.reg [⟨(some 19), (.mov (.t 3)), none, 2⟩, ⟨(some 20), (.bin .lss (.t 19) (.c (.int 0))), none, 2⟩] [])
 (.cond (.t 20)
 (.reg [⟨(some 21), (.mki 9 (.c (.str [108, 101, 110, 32, 111, 117, 116, 32, 111, 102, 32, 114, 97, 110, 103, 101]))), none, 2⟩, ⟨none, .bad, none, 2⟩] [])
 .skip)))))
 (.reg [⟨(some 22), (.bin .add (.t 11) (.c (.int 1))), none, 2⟩, ⟨(some 11), (.mov (.t 22)), none, 2⟩] [])))))))
 (.seq (.reg [⟨(some 23), (.mov (.t 3)), none, 2⟩, ⟨(some 24), (.call (.c (.fn 50 [])) [(.c (.sl true 0 0 (.agg []) true)), (.t 23)]), none, 2⟩, ⟨(some 6), (.mov (.t 24)), none, 2⟩] [])
 (.seq (.seq (.reg [⟨(some 25), (.mov (.t 0)), none, 2⟩, ⟨(some 26), (.len false (.t 25)), none, 2⟩, ⟨(some 27), (.mov (.c (.int 0))), none, 2⟩] [])
 (.block 2 (.loop (.seq (.reg [⟨(some 28), (.bin .lss (.t 27) (.t 26)), none, 2⟩] [])
 (.seq (.cond (.t 28)
 .skip
 (.exit 2))
 (.seq (.block 3 (.seq (.reg [⟨(some 29), (.iadS 1 (.t 25) (.t 27)), none, 2⟩, ⟨(some 30), (.load none (.t 29)), none, 2⟩, ⟨(some 8), (.mov (.t 30)), none, 2⟩] [])
 (.reg [⟨(some 31), (.mov (.t 6)), none, 2⟩, ⟨(some 32), (.mov (.t 8)), none, 2⟩, ⟨(some 33), (.app true 1 1 (.t 31) (.t 32)), none, 2⟩, ⟨(some 6), (.mov (.t 33)), none, 2⟩] [])))
 (.reg [⟨(some 34), (.bin .add (.t 27) (.c (.int 1))), none, 2⟩, ⟨(some 27), (.mov (.t 34)), none, 2⟩] [])))))))
 (.seq (.reg [⟨(some 35), (.mov (.t 6)), none, 2⟩, ⟨(some 2), (.mov (.t 35)), none, 2⟩] [])
 .ret))))))
theorem o30 : FnOK Try.prog 30 N30 res30 c30 := ⟨_, _, Try.f30.results.toList, [], pures, Try.func30, show _ = some (Try.f30.body.getD .skip) by kernel_rfl, (Array.toArray_toList).symm, by kernel_rfl, by kernel_rfl, by kernel_rfl, by kernel_rfl, follows, callFunc_enter Try.func30 (by kernel_rfl) (by kernel_rfl)⟩
-- (*sentinel/vault.Vault).counts
def N31 : Nat := 52
def keep31 : List Nat := [0, 1, 4, 5, 6, 7, 8, 9, 10, 12, 13, 46]
def res31 : List RV := [(.t 4), (.c 5 (some 2))]
def c31 : CC :=
 (.seq (.reg [⟨(some 4), (.mov (.c (.int 0))), none, 2⟩, ⟨(some 5), (.alloc (.agg [(.int 0), (.sl true 0 0 (.agg []) true)])), none, 2⟩] [])
 (.seq (.reg [⟨(some 11), (.build [(.int 0), (.sl true 0 0 (.agg []) true)] []), none, 2⟩, ⟨(some 7), (.alloc (.agg [(.int 0), (.sl true 0 0 (.agg []) true)])), none, 2⟩, ⟨(some 6), (.mov (.c (.int (-1)))), none, 2⟩, ⟨none, (.store (some 2) (.t 7) (.t 11)), none, 2⟩] [])
 (.seq (.seq (.reg [⟨(some 12), (.mov (.c (.int 0))), none, 2⟩] [])
 (.block 0 (.loop (.seq (.reg [⟨(some 13), (.bin .lss (.t 12) (.c (.int 2))), none, 2⟩] [])
 (.seq (.cond (.t 13)
 .skip
 (.exit 0))
 (.seq (.block 1 (.seq (.reg [⟨(some 14), (.mov (.t 12)), none, 2⟩, ⟨(some 8), (.mov (.t 14)), none, 2⟩] [])
 (.seq (.reg [⟨(some 16), (.mov (.t 1)), none, 2⟩, ⟨(some 17), (.bin .mul (.c (.int 2)) (.t 16)), none, 2⟩, ⟨(some 18), (.mov (.t 8)), none, 2⟩, ⟨(some 19), (.bin .add (.t 17) (.t 18)), none, 2⟩, ⟨(some 20), (.mov (.t 0)), none, 2⟩, ⟨(some 21), (.nilck (.t 20)), none, 2⟩, ⟨(some 22), (.fad 0 (.t 21)), none, 2⟩, ⟨(some 23), (.fad 0 (.t 22)), none, 2⟩, ⟨(some 24), (.load none (.t 23)), none, 2⟩, ⟨(some 25), (.mov (.t 1)), none, 2⟩, ⟨(some 26), (.bin .mul (.c (.int 2)) (.t 25)), none, 2⟩, ⟨(some 27), (.mov (.t 8)), none, 2⟩, ⟨(some 28), (.bin .add (.t 26) (.t 27)), none, 2⟩, ⟨(some 29), (.iadS 3 (.t 24) (.t 28)), none, 2⟩, ⟨(some 30), (.fad 0 (.t 29)), none, 2⟩, ⟨(some 31), (.load none (.t 30)), none, 2⟩, ⟨(some 32), (.call (.c (.fn 51 [])) [(.t 19), (.t 31)]), none, 2⟩, ⟨(some 15), (.mov (.t 32)), none, 2⟩, ⟨(some 33), (.ext (.t 15) 0), none, 2⟩, ⟨(some 34), (.ext (.t 15) 1), none, 2⟩, ⟨(some 9), (.alloc (.agg [(.int 0), (.sl true 0 0 (.agg []) true)])), none, 2⟩, ⟨none, (.store (some 2) (.t 9) (.t 33)), none, 2⟩, ⟨(some 10), (.mov (.t 34)), none, 2⟩] [])
 (.seq (.reg [⟨(some 35), (.mov (.t 10)), none, 2⟩, ⟨(some 36), (.mov (.t 35)), none, 2⟩, ⟨(some 37), (.mov (.t 6)), (some (36, true)), 2⟩, ⟨(some 38), (.bin .lss (.t 37) (.c (.int 0))), (some (36, true)), 2⟩, ⟨(some 39), (.mov (.t 38)), (some (36, true)), 2⟩, ⟨(some 40), (.fad 0 (.t 9)), (some (39, false)), 2⟩, ⟨(some 41), (.load none (.t 40)), (some (39, false)), 2⟩, ⟨(some 42), (.fad 0 (.t 7)), (some (39, false)), 2⟩, ⟨(some 43), (.load none (.t 42)), (some (39, false)), 2⟩, ⟨(some 44), (.bin .gtr (.t 41) (.t 43)), (some (39, false)), 2⟩, ⟨(some 45), (.pick (.t 39) (.c (.bool true)) (.t 44)), (some (36, true)), 2⟩, ⟨(some 46), (.pick (.t 36) (.t 45) (.c (.bool false))), none, 2⟩] [])
 (.cond (.t 46)
 (.reg [⟨(some 47), (.mov (.t 8)), none, 0⟩, ⟨(some 48), (.load (some 2) (.t 9)), none, 1⟩, ⟨(some 6), (.mov (.t 47)), none, 0⟩, ⟨none, (.store (some 2) (.t 7) (.t 48)), none, 2⟩] [])
 .skip)))))
 (.reg [⟨(some 49), (.bin .add (.t 12) (.c (.int 1))), none, 2⟩, ⟨(some 12), (.mov (.t 49)), none, 2⟩] [])))))))
 (.seq (.reg [⟨(some 50), (.mov (.t 6)), none, 0⟩, ⟨(some 51), (.load (some 2) (.t 7)), none, 1⟩, ⟨(some 4), (.mov (.t 50)), none, 0⟩, ⟨none, (.store (some 2) (.t 5) (.t 51)), none, 2⟩] [])
 .ret))))
theorem o31 : FnOK Try.prog 31 N31 res31 c31 := ⟨_, _, Try.f31.results.toList, [], pures, Try.func31, show _ = some (Try.f31.body.getD .skip) by kernel_rfl, (Array.toArray_toList).symm, by kernel_rfl, by kernel_rfl, by kernel_rfl, by kernel_rfl, follows, callFunc_enter Try.func31 (by kernel_rfl) (by kernel_rfl)⟩
-- sentinel/vault.number
def N32 : Nat := 19
def keep32 : List Nat := [0, 2, 3]
def res32 : List RV := [(.t 2)]
def c32 : CC :=
 (.seq (.reg [⟨(some 2), (.mov (.c (.int 0))), none, 2⟩] [])
 (.seq (.reg [⟨(some 6), (.mov (.t 0)), none, 2⟩, ⟨(some 7), (.call (.c (.fn 52 [])) [(.t 6)]), none, 2⟩, ⟨(some 5), (.mov (.t 7)), none, 2⟩, ⟨(some 8), (.ext (.t 5) 0), none, 2⟩, ⟨(some 9), (.ext (.t 5) 1), none, 2⟩, ⟨(some 3), (.alloc (.agg [(.u32 0), (.u32 0), (.u32 0), (.u32 0), (.u32 0), (.u32 0), (.u32 0), (.u32 0)])), none, 2⟩, ⟨none, (.store (some 8) (.t 3) (.t 8)), none, 2⟩, ⟨(some 4), (.mov (.t 9)), none, 2⟩] [])
 (.seq (.reg [⟨(some 10), (.iadA 8 1 (.t 3) (.c (.int 0))), none, 2⟩, ⟨(some 11), (.load none (.t 10)), none, 2⟩, ⟨(some 12), (.conv .u32u64 (.t 11)), none, 2⟩, ⟨(some 13), (.iadA 8 1 (.t 3) (.c (.int 1))), none, 2⟩, ⟨(some 14), (.load none (.t 13)), none, 2⟩, ⟨(some 15), (.conv .u32u64 (.t 14)), none, 2⟩, ⟨(some 16), (.bin .shl (.t 15) (.c (.u64 32))), none, 2⟩, ⟨(some 17), (.bin .or (.t 12) (.t 16)), none, 2⟩, ⟨(some 18), (.conv .u64i (.t 17)), none, 2⟩, ⟨(some 2), (.mov (.t 18)), none, 2⟩] [])
 .ret)))
theorem o32 : FnOK Try.prog 32 N32 res32 c32 := ⟨_, _, Try.f32.results.toList, [], pures, Try.func32, show _ = some (Try.f32.body.getD .skip) by kernel_rfl, (Array.toArray_toList).symm, by kernel_rfl, by kernel_rfl, by kernel_rfl, by kernel_rfl, follows, callFunc_enter Try.func32 (by kernel_rfl) (by kernel_rfl)⟩
-- bytes.Clone
def N33 : Nat := 8
def keep33 : List Nat := [0, 2, 4]
def res33 : List RV := [(.t 2)]
def c33 : CC :=
 (.seq (.reg [⟨(some 2), (.mov (.c (.sl true 0 0 (.agg []) true))), none, 2⟩] [])
 (.seq (.seq (.reg [⟨(some 3), (.mov (.t 0)), none, 2⟩, ⟨(some 4), (.eq false .slice (.t 3) (.c (.sl true 0 0 (.agg []) true))), none, 2⟩] [])
 (.cond (.t 4)
 (.seq (.reg [⟨(some 2), (.mov (.c (.sl true 0 0 (.agg []) true))), none, 2⟩] [])
 .ret)
 .skip))
 (.seq (.reg [⟨(some 5), (.bsl false .u8 1 0 [(.u8 0)] []), none, 2⟩, ⟨(some 6), (.mov (.t 0)), none, 2⟩, ⟨(some 7), (.app true 1 1 (.t 5) (.t 6)), none, 2⟩, ⟨(some 2), (.mov (.t 7)), none, 2⟩] [])
 .ret)))
theorem o33 : FnOK Try.prog 33 N33 res33 c33 := ⟨_, _, Try.f33.results.toList, [], pures, Try.func33, show _ = some (Try.f33.body.getD .skip) by kernel_rfl, (Array.toArray_toList).symm, by kernel_rfl, by kernel_rfl, by kernel_rfl, by kernel_rfl, follows, callFunc_enter Try.func33 (by kernel_rfl) (by kernel_rfl)⟩
-- slices.Clip[[]sentinel/api.Cell,sentinel/api.Cell]
def N34 : Nat := 9
def keep34 : List Nat := [0, 2]
def res34 : List RV := [(.t 2)]
def c34 : CC :=
 (.seq (.reg [⟨(some 2), (.mov (.c (.sl true 0 0 (.agg []) true))), none, 2⟩] [])
 (.seq (.reg [⟨(some 3), (.mov (.t 0)), none, 2⟩, ⟨(some 4), (.mov (.t 0)), none, 2⟩, ⟨(some 5), (.len false (.t 4)), none, 2⟩, ⟨(some 6), (.mov (.t 0)), none, 2⟩, ⟨(some 7), (.len false (.t 6)), none, 2⟩, ⟨(some 8), (.slcS 3 (.t 3) none (some (.t 5)) (some (.t 7))), none, 2⟩, ⟨(some 2), (.mov (.t 8)), none, 2⟩] [])
 .ret))
theorem o34 : FnOK Try.prog 34 N34 res34 c34 := ⟨_, _, Try.f34.results.toList, [], pures, Try.func34, show _ = some (Try.f34.body.getD .skip) by kernel_rfl, (Array.toArray_toList).symm, by kernel_rfl, by kernel_rfl, by kernel_rfl, by kernel_rfl, follows, callFunc_enter Try.func34 (by kernel_rfl) (by kernel_rfl)⟩
-- (*sentinel/vault.Vault).records
def N35 : Nat := 4
def keep35 : List Nat := [0, 1, 2]
def res35 : List RV := [(.t 2)]
def c35 : CC :=
 (.seq (.reg [⟨(some 1), (.box (.t 0)), none, 2⟩, ⟨(some 2), (.mov (.c .nilf)), none, 2⟩] [])
 (.seq (.reg [⟨(some 3), (.mkf 53 [(.t 1)]), none, 2⟩, ⟨(some 2), (.mov (.t 3)), none, 2⟩] [])
 .ret))
theorem o35 : FnOK Try.prog 35 N35 res35 c35 := ⟨_, _, Try.f35.results.toList, [], pures, Try.func35, show _ = some (Try.f35.body.getD .skip) by kernel_rfl, (Array.toArray_toList).symm, by kernel_rfl, by kernel_rfl, by kernel_rfl, by kernel_rfl, follows, callFunc_enter Try.func35 (by kernel_rfl) (by kernel_rfl)⟩
-- slices.Sort[[]string,string]
def N36 : Nat := 11
def keep36 : List Nat := [0, 2]
def res36 : List RV := []
def c36 : CC :=
 (.seq (.reg [⟨(some 3), (.mov (.t 0)), none, 2⟩, ⟨(some 4), (.len false (.t 3)), none, 2⟩, ⟨(some 2), (.mov (.t 4)), none, 2⟩] [])
 (.reg [⟨(some 5), (.mov (.t 0)), none, 2⟩, ⟨(some 6), (.mov (.t 2)), none, 2⟩, ⟨(some 7), (.mov (.t 2)), none, 2⟩, ⟨(some 8), (.conv .iu64 (.t 7)), none, 2⟩, ⟨(some 9), (.call (.c (.fn 56 [])) [(.t 8)]), none, 2⟩, ⟨(some 10), (.call (.c (.fn 55 [])) [(.t 5), (.c (.int 0)), (.t 6), (.t 9)]), none, 2⟩] []))
theorem o36 : FnOK Try.prog 36 N36 res36 c36 := ⟨_, _, Try.f36.results.toList, [], pures, Try.func36, show _ = some (Try.f36.body.getD .skip) by kernel_rfl, (Array.toArray_toList).symm, by kernel_rfl, by kernel_rfl, by kernel_rfl, by kernel_rfl, follows, callFunc_enter Try.func36 (by kernel_rfl) (by kernel_rfl)⟩
-- slices.Clone[[]string,string]
def N37 : Nat := 8
def keep37 : List Nat := [0, 2, 4]
def res37 : List RV := [(.t 2)]
def c37 : CC :=
 (.seq (.reg [⟨(some 2), (.mov (.c (.sl true 0 0 (.agg []) true))), none, 2⟩] [])
 (.seq (.seq (.reg [⟨(some 3), (.mov (.t 0)), none, 2⟩, ⟨(some 4), (.eq false .slice (.t 3) (.c (.sl true 0 0 (.agg []) true))), none, 2⟩] [])
 (.cond (.t 4)
 (.seq (.reg [⟨(some 2), (.mov (.c (.sl true 0 0 (.agg []) true))), none, 2⟩] [])
 .ret)
 .skip))
 (.seq (.reg [⟨(some 5), (.bsl false .other 1 0 [(.str [])] []), none, 2⟩, ⟨(some 6), (.mov (.t 0)), none, 2⟩, ⟨(some 7), (.app true 1 16 (.t 5) (.t 6)), none, 2⟩, ⟨(some 2), (.mov (.t 7)), none, 2⟩] [])
 .ret)))
theorem o37 : FnOK Try.prog 37 N37 res37 c37 := ⟨_, _, Try.f37.results.toList, [], pures, Try.func37, show _ = some (Try.f37.body.getD .skip) by kernel_rfl, (Array.toArray_toList).symm, by kernel_rfl, by kernel_rfl, by kernel_rfl, by kernel_rfl, follows, callFunc_enter Try.func37 (by kernel_rfl) (by kernel_rfl)⟩
-- sentinel/vault.written
def N38 : Nat := 29
def keep38 : List Nat := [0, 1, 3, 4, 5, 6]
def res38 : List RV := [(.t 4)]
def c38 : CC :=
 (.seq (.reg [⟨(some 3), (.box (.t 1)), none, 2⟩, ⟨(some 4), (.mov (.c (.sl true 0 0 (.agg []) true))), none, 2⟩] [])
 (.seq (.reg [⟨(some 7), (.fad 0 (.t 3)), none, 0⟩, ⟨(some 8), (.load none (.t 7)), none, 1⟩, ⟨(some 9), (.call (.c (.fn 24 [])) [(.t 8)]), none, 0⟩, ⟨(some 10), (.fad 1 (.t 3)), none, 0⟩, ⟨(some 11), (.load none (.t 10)), none, 1⟩, ⟨(some 12), (.len false (.t 11)), none, 0⟩, ⟨(some 13), (.conv .iu8 (.t 12)), none, 0⟩, ⟨(some 14), (.bsl false .u8 1 1 [(.u8 0)] [(0, (1, (.t 13)))]), none, 0⟩, ⟨(some 15), (.fad 1 (.t 3)), none, 0⟩, ⟨(some 16), (.load none (.t 15)), none, 1⟩, ⟨(some 17), (.bsl false .other 1 3 [(.sl true 0 0 (.agg []) true)] [(0, (1, (.t 9))), (1, (1, (.t 14))), (2, (1, (.t 16)))]), none, 0⟩, ⟨(some 18), (.call (.c (.fn 30 [])) [(.t 17)]), none, 2⟩, ⟨(some 5), (.mov (.t 18)), none, 0⟩] [])
 (.seq (.reg [⟨(some 19), (.bsl true .u8 1 4 [(.u8 0)] [(0, (1, (.c (.u8 99)))), (1, (1, (.c (.u8 101)))), (2, (1, (.c (.u8 108)))), (3, (1, (.c (.u8 108))))]), none, 2⟩, ⟨(some 20), (.conv .mark (.t 19)), none, 2⟩, ⟨(some 21), (.mov (.t 0)), none, 2⟩, ⟨(some 22), (.call (.c (.fn 24 [])) [(.t 21)]), none, 2⟩, ⟨(some 23), (.mov (.t 5)), none, 2⟩, ⟨(some 24), (.bsl false .other 1 3 [(.sl true 0 0 (.agg []) true)] [(0, (1, (.t 20))), (1, (1, (.t 22))), (2, (1, (.t 23)))]), none, 2⟩, ⟨(some 25), (.call (.c (.fn 57 [])) [(.t 24)]), none, 2⟩, ⟨(some 6), (.alloc (.agg [(.u8 0), (.u8 0), (.u8 0), (.u8 0), (.u8 0), (.u8 0), (.u8 0), (.u8 0), (.u8 0), (.u8 0), (.u8 0), (.u8 0), (.u8 0), (.u8 0), (.u8 0), (.u8 0)])), none, 2⟩, ⟨none, (.store (some 16) (.t 6) (.t 25)), none, 2⟩] [])
 (.seq (.reg [⟨(some 26), (.mov (.t 5)), none, 2⟩, ⟨(some 27), (.slcA 16 1 (.t 6) none none), none, 2⟩, ⟨(some 28), (.app true 1 1 (.t 26) (.t 27)), none, 2⟩, ⟨(some 4), (.mov (.t 28)), none, 2⟩] [])
 .ret))))
theorem o38 : FnOK Try.prog 38 N38 res38 c38 := ⟨_, _, Try.f38.results.toList, [19], pures, Try.func38, show _ = some (Try.f38.body.getD .skip) by kernel_rfl, (Array.toArray_toList).symm, by kernel_rfl, by kernel_rfl, by kernel_rfl, by kernel_rfl, follows, callFunc_enter Try.func38 (by kernel_rfl) (by kernel_rfl)⟩
-- (*sentinel/vault.device[sentinel/api.Cell]).step
def N39 : Nat := 41
def keep39 : List Nat := [0, 1, 2, 6, 17, 25]
def res39 : List RV := [(.t 6)]
def c39 : CC :=
 (.seq (.reg [⟨(some 6), (.mov (.c (.bool false))), none, 2⟩] [])
 (.seq (.seq (.reg [⟨(some 7), (.mov (.t 0)), none, 2⟩, ⟨(some 8), (.nilck (.t 7)), none, 2⟩, ⟨(some 9), (.fad 2 (.t 8)), none, 2⟩, ⟨(some 10), (.load none (.t 9)), none, 2⟩, ⟨(some 11), (.mov (.t 10)), none, 2⟩, ⟨(some 12), (.mov (.t 0)), (some (11, false)), 2⟩, ⟨(some 13), (.nilck (.t 12)), (some (11, false)), 2⟩, ⟨(some 14), (.fad 1 (.t 13)), (some (11, false)), 2⟩, ⟨(some 15), (.load none (.t 14)), (some (11, false)), 2⟩, ⟨(some 16), (.eq false .sc (.t 15) (.c (.int 0))), (some (11, false)), 2⟩, ⟨(some 17), (.pick (.t 11) (.c (.bool true)) (.t 16)), none, 2⟩] [])
 (.cond (.t 17)
 (.seq (.reg [⟨(some 18), (.mov (.t 0)), none, 2⟩, ⟨(some 19), (.nilck (.t 18)), none, 2⟩, ⟨(some 20), (.fad 2 (.t 19)), none, 2⟩, ⟨none, (.store none (.t 20) (.c (.bool true))), none, 2⟩] [])
 (.seq (.reg [⟨(some 6), (.mov (.c (.bool false))), none, 2⟩] [])
 .ret))
 .skip))
 (.seq (.seq (.reg [⟨(some 21), (.mov (.t 0)), none, 2⟩, ⟨(some 22), (.nilck (.t 21)), none, 2⟩, ⟨(some 23), (.fad 1 (.t 22)), none, 2⟩, ⟨(some 24), (.load none (.t 23)), none, 2⟩, ⟨(some 25), (.bin .gtr (.t 24) (.c (.int 0))), none, 2⟩] [])
 (.cond (.t 25)
 (.reg [⟨(some 26), (.mov (.t 0)), none, 2⟩, ⟨(some 27), (.nilck (.t 26)), none, 2⟩, ⟨(some 28), (.fad 1 (.t 27)), none, 2⟩, ⟨(some 29), (.load none (.t 28)), none, 2⟩, ⟨(some 30), (.bin .sub (.t 29) (.c (.int 1))), none, 2⟩, ⟨(some 31), (.nilck (.t 26)), none, 2⟩, ⟨(some 32), (.fad 1 (.t 31)), none, 2⟩, ⟨none, (.store none (.t 32) (.t 30)), none, 2⟩] [])
 .skip))
 (.seq (.reg [⟨(some 33), (.mov (.t 2)), none, 2⟩, ⟨(some 34), (.mov (.t 0)), none, 2⟩, ⟨(some 35), (.nilck (.t 34)), none, 2⟩, ⟨(some 36), (.fad 0 (.t 35)), none, 2⟩, ⟨(some 37), (.load none (.t 36)), none, 2⟩, ⟨(some 38), (.mov (.t 1)), none, 2⟩, ⟨(some 39), (.iadS 3 (.t 37) (.t 38)), none, 2⟩, ⟨(some 40), (.call (.t 33) [(.t 39)]), none, 2⟩] [])
 (.seq (.reg [⟨(some 6), (.mov (.c (.bool true))), none, 2⟩] [])
 .ret)))))
theorem o39 : FnOK Try.prog 39 N39 res39 c39 := ⟨_, _, Try.f39.results.toList, [], pures, Try.func39, show _ = some (Try.f39.body.getD .skip) by kernel_rfl, (Array.toArray_toList).symm, by kernel_rfl, by kernel_rfl, by kernel_rfl, by kernel_rfl, follows, callFunc_enter Try.func39 (by kernel_rfl) (by kernel_rfl)⟩
-- (*sentinel/vault.Vault).write$1
def N40 : Nat := 10
def keep40 : List Nat := [0, 1]
def res40 : List RV := []
def c40 : CC :=
 (.reg [⟨(some 3), (.mov (.t 0)), none, 2⟩, ⟨(some 4), (.mov (.t 0)), none, 2⟩, ⟨(some 5), (.load none (.t 1)), none, 2⟩, ⟨(some 6), (.nilck (.t 3)), none, 2⟩, ⟨(some 7), (.fad 1 (.t 6)), none, 2⟩, ⟨none, (.store none (.t 7) (.t 5)), none, 2⟩, ⟨(some 8), (.nilck (.t 4)), none, 2⟩, ⟨(some 9), (.fad 2 (.t 8)), none, 2⟩, ⟨none, (.store none (.t 9) (.c (.bool true))), none, 2⟩] [])
theorem o40 : FnOK Try.prog 40 N40 res40 c40 := ⟨_, _, Try.f40.results.toList, [], pures, Try.func40, show _ = some (Try.f40.body.getD .skip) by kernel_rfl, (Array.toArray_toList).symm, by kernel_rfl, by kernel_rfl, by kernel_rfl, by kernel_rfl, follows, callFunc_enter Try.func40 (by kernel_rfl) (by kernel_rfl)⟩
-- (*sentinel/vault.Vault).write$2
def N41 : Nat := 9
def keep41 : List Nat := [0]
def res41 : List RV := []
def c41 : CC :=
 (.reg [⟨(some 2), (.mov (.t 0)), none, 2⟩, ⟨(some 3), (.mov (.t 0)), none, 2⟩, ⟨(some 4), (.nilck (.t 3)), none, 2⟩, ⟨(some 5), (.fad 1 (.t 4)), none, 2⟩, ⟨(some 6), (.load none (.t 5)), none, 2⟩, ⟨(some 7), (.build [(.sl true 0 0 (.agg []) true), (.sl true 0 0 (.agg []) true), (.bool false)] [(0, (1, (.t 6)))]), none, 2⟩, ⟨(some 8), (.nilck (.t 2)), none, 2⟩, ⟨none, (.store (some 3) (.t 8) (.t 7)), none, 2⟩] [])
theorem o41 : FnOK Try.prog 41 N41 res41 c41 := ⟨_, _, Try.f41.results.toList, [], pures, Try.func41, show _ = some (Try.f41.body.getD .skip) by kernel_rfl, (Array.toArray_toList).symm, by kernel_rfl, by kernel_rfl, by kernel_rfl, by kernel_rfl, follows, callFunc_enter Try.func41 (by kernel_rfl) (by kernel_rfl)⟩
-- sentinel/limb.Bytes
def N42 : Nat := 34
def keep42 : List Nat := [0, 1, 2, 3, 4, 7]
def res42 : List RV := [(.t 2)]
def c42 : CC :=
 (.seq (.reg [⟨(some 1), (.box (.t 0)), none, 2⟩, ⟨(some 2), (.mov (.c (.sl true 0 0 (.agg []) true))), none, 2⟩] [])
 (.seq (.reg [⟨(some 5), (.mksl .u8 1 1 [(.u8 0)] (.c (.int 0)) (.c (.int 32))), none, 2⟩, ⟨(some 3), (.mov (.t 5)), none, 2⟩] [])
 (.seq (.seq (.reg [⟨(some 4), (.mov (.c (.int 7))), none, 2⟩] [])
 (.block 0 (.loop (.seq (.seq (.reg [⟨(some 6), (.mov (.t 4)), none, 2⟩, ⟨(some 7), (.bin .geq (.t 6) (.c (.int 0))), none, 2⟩] [])
 (.cond (.t 7)
 .skip
 (.exit 0)))
 (.seq (.block 1 (.reg [⟨(some 10), (.mov (.t 3)), none, 0⟩, ⟨(some 11), (.mov (.t 4)), none, 0⟩, ⟨(some 12), (.iadA 8 1 (.t 1) (.t 11)), none, 0⟩, ⟨(some 13), (.load none (.t 12)), none, 1⟩, ⟨(some 14), (.bin .shr (.t 13) (.c (.u64 24))), none, 0⟩, ⟨(some 15), (.conv .u32u8 (.t 14)), none, 0⟩, ⟨(some 16), (.mov (.t 4)), none, 0⟩, ⟨(some 17), (.iadA 8 1 (.t 1) (.t 16)), none, 0⟩, ⟨(some 18), (.load none (.t 17)), none, 1⟩, ⟨(some 19), (.bin .shr (.t 18) (.c (.u64 16))), none, 0⟩, ⟨(some 20), (.conv .u32u8 (.t 19)), none, 0⟩, ⟨(some 21), (.mov (.t 4)), none, 0⟩, ⟨(some 22), (.iadA 8 1 (.t 1) (.t 21)), none, 0⟩, ⟨(some 23), (.load none (.t 22)), none, 1⟩, ⟨(some 24), (.bin .shr (.t 23) (.c (.u64 8))), none, 0⟩, ⟨(some 25), (.conv .u32u8 (.t 24)), none, 0⟩, ⟨(some 26), (.mov (.t 4)), none, 0⟩, ⟨(some 27), (.iadA 8 1 (.t 1) (.t 26)), none, 0⟩, ⟨(some 28), (.load none (.t 27)), none, 1⟩, ⟨(some 29), (.conv .u32u8 (.t 28)), none, 0⟩, ⟨(some 30), (.bsl false .u8 1 4 [(.u8 0)] [(0, (1, (.t 15))), (1, (1, (.t 20))), (2, (1, (.t 25))), (3, (1, (.t 29)))]), none, 0⟩, ⟨(some 31), (.app true 1 1 (.t 10) (.t 30)), none, 2⟩, ⟨(some 3), (.mov (.t 31)), none, 0⟩] []))
 (.reg [⟨(some 8), (.mov (.t 4)), none, 2⟩, ⟨(some 9), (.bin .sub (.t 8) (.c (.int 1))), none, 2⟩, ⟨(some 4), (.mov (.t 9)), none, 2⟩] []))))))
 (.seq (.reg [⟨(some 32), (.mov (.t 3)), none, 2⟩, ⟨(some 33), (.slcS 1 (.t 32) none (some (.c (.int 32))) (some (.c (.int 32)))), none, 2⟩, ⟨(some 2), (.mov (.t 33)), none, 2⟩] [])
 .ret))))
theorem o42 : FnOK Try.prog 42 N42 res42 c42 := ⟨_, _, Try.f42.results.toList, [], pures, Try.func42, show _ = some (Try.f42.body.getD .skip) by kernel_rfl, (Array.toArray_toList).symm, by kernel_rfl, by kernel_rfl, by kernel_rfl, by kernel_rfl, follows, callFunc_enter Try.func42 (by kernel_rfl) (by kernel_rfl)⟩
-- sentinel/limb.From
def N43 : Nat := 15
def keep43 : List Nat := [0, 2, 3, 5]
def res43 : List RV := [(.c 2 (some 8))]
def c43 : CC :=
 (.seq (.reg [⟨(some 2), (.alloc (.agg [(.u32 0), (.u32 0), (.u32 0), (.u32 0), (.u32 0), (.u32 0), (.u32 0), (.u32 0)])), none, 2⟩] [])
 (.seq (.reg [⟨(some 3), (.alloc (.agg [(.u32 0), (.u32 0), (.u32 0), (.u32 0), (.u32 0), (.u32 0), (.u32 0), (.u32 0)])), none, 2⟩] [])
 (.seq (.seq (.reg [⟨(some 4), (.mov (.t 0)), none, 2⟩, ⟨(some 5), (.bin .lss (.t 4) (.c (.int 0))), none, 2⟩] [])
 (.cond (.t 5)
 (.seq (.reg [⟨(some 6), (.load (some 8) (.t 3)), none, 2⟩, ⟨none, (.store (some 8) (.t 2) (.t 6)), none, 2⟩] [])
 .ret)
 .skip))
 (.seq (.reg [⟨(some 7), (.mov (.t 0)), none, 2⟩, ⟨(some 8), (.conv .iu32 (.t 7)), none, 2⟩, ⟨(some 9), (.mov (.t 0)), none, 2⟩, ⟨(some 10), (.bin .shr (.t 9) (.c (.u64 32))), none, 2⟩, ⟨(some 11), (.conv .iu32 (.t 10)), none, 2⟩, ⟨(some 12), (.iadA 8 1 (.t 3) (.c (.int 0))), none, 2⟩, ⟨none, (.store none (.t 12) (.t 8)), none, 2⟩, ⟨(some 13), (.iadA 8 1 (.t 3) (.c (.int 1))), none, 2⟩, ⟨none, (.store none (.t 13) (.t 11)), none, 2⟩] [])
 (.seq (.reg [⟨(some 14), (.load (some 8) (.t 3)), none, 2⟩, ⟨none, (.store (some 8) (.t 2) (.t 14)), none, 2⟩] [])
 .ret)))))
theorem o43 : FnOK Try.prog 43 N43 res43 c43 := ⟨_, _, Try.f43.results.toList, [], pures, Try.func43, show _ = some (Try.f43.body.getD .skip) by kernel_rfl, (Array.toArray_toList).symm, by kernel_rfl, by kernel_rfl, by kernel_rfl, by kernel_rfl, follows, callFunc_enter Try.func43 (by kernel_rfl) (by kernel_rfl)⟩
-- sentinel/wire.named
def N44 : Nat := 28
def keep44 : List Nat := [0, 2, 3, 11, 13, 14, 15, 26]
def res44 : List RV := [(.t 2)]
def c44 : CC :=
 (.seq (.reg [⟨(some 2), (.mov (.c (.bool false))), none, 2⟩] [])
 (.seq (.seq (.reg [⟨(some 4), (.mov (.t 0)), none, 2⟩, ⟨(some 5), (.len true (.t 4)), none, 2⟩, ⟨(some 6), (.bin .lss (.t 5) (.c (.int 1))), none, 2⟩, ⟨(some 7), (.mov (.t 6)), none, 2⟩, ⟨(some 8), (.mov (.t 0)), (some (7, false)), 2⟩, ⟨(some 9), (.len true (.t 8)), (some (7, false)), 2⟩, ⟨(some 10), (.bin .gtr (.t 9) (.c (.int 16))), (some (7, false)), 2⟩, ⟨(some 11), (.pick (.t 7) (.c (.bool true)) (.t 10)), none, 2⟩] [])
 (.cond (.t 11)
 (.seq (.reg [⟨(some 2), (.mov (.c (.bool false))), none, 2⟩] [])
 .ret)
 .skip))
 (.seq (.seq (.reg [⟨(some 12), (.mov (.t 0)), none, 2⟩, ⟨(some 13), (.len true (.t 12)), none, 2⟩, ⟨(some 14), (.mov (.c (.int 0))), none, 2⟩] [])
 (.block 0 (.loop (.seq (.reg [⟨(some 15), (.bin .lss (.t 14) (.t 13)), none, 2⟩] [])
 (.seq (.cond (.t 15)
 .skip
 (.exit 0))
 (.seq (.block 1 (.seq (.reg [⟨(some 16), (.mov (.t 14)), none, 2⟩, ⟨(some 3), (.mov (.t 16)), none, 2⟩] [])
 (.seq (.reg [⟨(some 17), (.mov (.t 0)), none, 2⟩, ⟨(some 18), (.mov (.t 3)), none, 2⟩, ⟨(some 19), (.idx (.t 17) (.t 18)), none, 2⟩, ⟨(some 20), (.bin .lss (.t 19) (.c (.u8 33))), none, 2⟩, ⟨(some 21), (.mov (.t 20)), none, 2⟩, ⟨(some 22), (.mov (.t 0)), (some (21, false)), 2⟩, ⟨(some 23), (.mov (.t 3)), (some (21, false)), 2⟩, ⟨(some 24), (.idx (.t 22) (.t 23)), (some (21, false)), 2⟩, ⟨(some 25), (.bin .gtr (.t 24) (.c (.u8 126))), (some (21, false)), 2⟩, ⟨(some 26), (.pick (.t 21) (.c (.bool true)) (.t 25)), none, 2⟩] [])
 (.cond (.t 26)
 (.seq (.reg [⟨(some 2), (.mov (.c (.bool false))), none, 2⟩] [])
 .ret)
 .skip))))
 (.reg [⟨(some 27), (.bin .add (.t 14) (.c (.int 1))), none, 2⟩, ⟨(some 14), (.mov (.t 27)), none, 2⟩] [])))))))
 (.seq (.reg [⟨(some 2), (.mov (.c (.bool true))), none, 2⟩] [])
 .ret))))
theorem o44 : FnOK Try.prog 44 N44 res44 c44 := ⟨_, _, Try.f44.results.toList, [], pures, Try.func44, show _ = some (Try.f44.body.getD .skip) by kernel_rfl, (Array.toArray_toList).symm, by kernel_rfl, by kernel_rfl, by kernel_rfl, by kernel_rfl, follows, callFunc_enter Try.func44 (by kernel_rfl) (by kernel_rfl)⟩
-- sentinel/limb.Bits
def N45 : Nat := 19
def keep45 : List Nat := [0, 1, 2, 3, 5, 11]
def res45 : List RV := [(.t 2)]
def c45 : CC :=
 (.seq (.reg [⟨(some 1), (.box (.t 0)), none, 2⟩, ⟨(some 2), (.mov (.c (.int 0))), none, 2⟩] [])
 (.seq (.seq (.reg [⟨(some 3), (.mov (.c (.int 7))), none, 2⟩] [])
 (.block 0 (.loop (.seq (.seq (.reg [⟨(some 4), (.mov (.t 3)), none, 2⟩, ⟨(some 5), (.bin .geq (.t 4) (.c (.int 0))), none, 2⟩] [])
 (.cond (.t 5)
 .skip
 (.exit 0)))
 (.seq (.block 1 (.seq (.reg [⟨(some 8), (.mov (.t 3)), none, 2⟩, ⟨(some 9), (.iadA 8 1 (.t 1) (.t 8)), none, 2⟩, ⟨(some 10), (.load none (.t 9)), none, 2⟩, ⟨(some 11), (.eq true .sc (.t 10) (.c (.u32 0))), none, 2⟩] [])
 (.cond (.t 11)
 (.seq (.reg [⟨(some 12), (.mov (.t 3)), none, 2⟩, ⟨(some 13), (.bin .mul (.c (.int 32)) (.t 12)), none, 2⟩, ⟨(some 14), (.mov (.t 3)), none, 2⟩, ⟨(some 15), (.iadA 8 1 (.t 1) (.t 14)), none, 2⟩, ⟨(some 16), (.load none (.t 15)), none, 2⟩, ⟨(some 17), (.call (.c (.fn 58 [])) [(.t 16)]), none, 2⟩, ⟨(some 18), (.bin .add (.t 13) (.t 17)), none, 2⟩, ⟨(some 2), (.mov (.t 18)), none, 2⟩] [])
 .ret)
 .skip)))
 (.reg [⟨(some 6), (.mov (.t 3)), none, 2⟩, ⟨(some 7), (.bin .sub (.t 6) (.c (.int 1))), none, 2⟩, ⟨(some 3), (.mov (.t 7)), none, 2⟩] []))))))
 (.seq (.reg [⟨(some 2), (.mov (.c (.int 0))), none, 2⟩] [])
 .ret)))
theorem o45 : FnOK Try.prog 45 N45 res45 c45 := ⟨_, _, Try.f45.results.toList, [], pures, Try.func45, show _ = some (Try.f45.body.getD .skip) by kernel_rfl, (Array.toArray_toList).symm, by kernel_rfl, by kernel_rfl, by kernel_rfl, by kernel_rfl, follows, callFunc_enter Try.func45 (by kernel_rfl) (by kernel_rfl)⟩
-- sentinel/wire.at
def N46 : Nat := 14
def keep46 : List Nat := [0, 1, 2, 4, 5]
def res46 : List RV := [(.t 4)]
def c46 : CC :=
 (.seq (.reg [⟨(some 2), (.box (.t 0)), none, 2⟩, ⟨(some 4), (.mov (.c (.sl true 0 0 (.agg []) true))), none, 2⟩] [])
 (.seq (.reg [⟨(some 6), (.load (some 8) (.t 2)), none, 2⟩, ⟨(some 7), (.call (.c (.fn 42 [])) [(.t 6)]), none, 2⟩, ⟨(some 5), (.mov (.t 7)), none, 2⟩] [])
 (.seq (.reg [⟨(some 8), (.mov (.t 5)), none, 2⟩, ⟨(some 9), (.mov (.t 5)), none, 2⟩, ⟨(some 10), (.len false (.t 9)), none, 2⟩, ⟨(some 11), (.mov (.t 1)), none, 2⟩, ⟨(some 12), (.bin .sub (.t 10) (.t 11)), none, 2⟩, ⟨(some 13), (.slcS 1 (.t 8) (some (.t 12)) none none), none, 2⟩, ⟨(some 4), (.mov (.t 13)), none, 2⟩] [])
 .ret)))
theorem o46 : FnOK Try.prog 46 N46 res46 c46 := ⟨_, _, Try.f46.results.toList, [], pures, Try.func46, show _ = some (Try.f46.body.getD .skip) by kernel_rfl, (Array.toArray_toList).symm, by kernel_rfl, by kernel_rfl, by kernel_rfl, by kernel_rfl, follows, callFunc_enter Try.func46 (by kernel_rfl) (by kernel_rfl)⟩
-- sentinel/sentinellaw5.within
def N47 : Nat := 15
def keep47 : List Nat := [0, 1, 4, 5, 10]
def res47 : List RV := [(.t 4)]
def c47 : CC :=
 (.seq (.reg [⟨(some 4), (.mov (.c (.int 0))), none, 2⟩] [])
 (.seq (.reg [⟨(some 6), (.mov (.t 0)), none, 2⟩, ⟨(some 7), (.mov (.t 1)), none, 2⟩, ⟨(some 8), (.bin .rem (.t 6) (.t 7)), none, 2⟩, ⟨(some 5), (.mov (.t 8)), none, 2⟩] [])
 (.seq (.seq (.reg [⟨(some 9), (.mov (.t 5)), none, 2⟩, ⟨(some 10), (.bin .lss (.t 9) (.c (.int 0))), none, 2⟩] [])
 (.cond (.t 10)
 (.reg [⟨(some 11), (.mov (.t 5)), none, 2⟩, ⟨(some 12), (.mov (.t 1)), none, 2⟩, ⟨(some 13), (.bin .add (.t 11) (.t 12)), none, 2⟩, ⟨(some 5), (.mov (.t 13)), none, 2⟩] [])
 .skip))
 (.seq (.reg [⟨(some 14), (.mov (.t 5)), none, 2⟩, ⟨(some 4), (.mov (.t 14)), none, 2⟩] [])
 .ret))))
theorem o47 : FnOK Try.prog 47 N47 res47 c47 := ⟨_, _, Try.f47.results.toList, [], pures, Try.func47, show _ = some (Try.f47.body.getD .skip) by kernel_rfl, (Array.toArray_toList).symm, by kernel_rfl, by kernel_rfl, by kernel_rfl, by kernel_rfl, follows, callFunc_enter Try.func47 (by kernel_rfl) (by kernel_rfl)⟩
-- sentinel/sentinellaw5.Name
def N48 : Nat := 33
def keep48 : List Nat := [0, 2, 3, 4, 10, 26]
def res48 : List RV := [(.t 2)]
def c48 : CC :=
 (.seq (.reg [⟨(some 2), (.mov (.c (.str []))), none, 2⟩] [])
 (.seq (.reg [⟨(some 5), (.mov (.t 0)), none, 2⟩, ⟨(some 6), (.conv (.strb true) (.t 5)), none, 2⟩, ⟨(some 3), (.mov (.t 6)), none, 2⟩] [])
 (.seq (.seq (.reg [⟨(some 4), (.mov (.c (.int 0))), none, 2⟩] [])
 (.block 0 (.loop (.seq (.seq (.reg [⟨(some 7), (.mov (.t 4)), none, 2⟩, ⟨(some 8), (.mov (.t 3)), none, 2⟩, ⟨(some 9), (.len false (.t 8)), none, 2⟩, ⟨(some 10), (.bin .lss (.t 7) (.t 9)), none, 2⟩] [])
 (.cond (.t 10)
 .skip
 (.exit 0)))
 (.seq (.block 1 (.reg [⟨(some 13), (.mov (.t 3)), none, 2⟩, ⟨(some 14), (.mov (.t 4)), none, 2⟩, ⟨(some 15), (.mov (.t 3)), none, 2⟩, ⟨(some 16), (.mov (.t 4)), none, 2⟩, ⟨(some 17), (.iadS 1 (.t 15) (.t 16)), none, 2⟩, ⟨(some 18), (.load none (.t 17)), none, 2⟩, ⟨(some 19), (.conv .u8i (.t 18)), none, 2⟩, ⟨(some 20), (.call (.c (.fn 47 [])) [(.t 19), (.c (.int 94))]), none, 2⟩, ⟨(some 21), (.bin .add (.c (.int 33)) (.t 20)), none, 2⟩, ⟨(some 22), (.conv .iu8 (.t 21)), none, 2⟩, ⟨(some 23), (.iadS 1 (.t 13) (.t 14)), none, 2⟩, ⟨none, (.store none (.t 23) (.t 22)), none, 2⟩] []))
 (.reg [⟨(some 11), (.mov (.t 4)), none, 2⟩, ⟨(some 12), (.bin .add (.t 11) (.c (.int 1))), none, 2⟩, ⟨(some 4), (.mov (.t 12)), none, 2⟩] []))))))
 (.seq (.seq (.reg [⟨(some 24), (.mov (.t 3)), none, 2⟩, ⟨(some 25), (.len false (.t 24)), none, 2⟩, ⟨(some 26), (.eq false .sc (.t 25) (.c (.int 0))), none, 2⟩] [])
 (.cond (.t 26)
 (.seq (.reg [⟨(some 2), (.mov (.c (.str [117]))), none, 2⟩] [])
 .ret)
 .skip))
 (.seq (.reg [⟨(some 27), (.mov (.t 3)), none, 2⟩, ⟨(some 28), (.mov (.t 3)), none, 2⟩, ⟨(some 29), (.len false (.t 28)), none, 2⟩, ⟨(some 30), (.mn (.t 29) (.c (.int 16))), none, 2⟩, ⟨(some 31), (.slcS 1 (.t 27) none (some (.t 30)) none), none, 2⟩, ⟨(some 32), (.conv .bstr (.t 31)), none, 2⟩, ⟨(some 2), (.mov (.t 32)), none, 2⟩] [])
 .ret)))))
theorem o48 : FnOK Try.prog 48 N48 res48 c48 := ⟨_, _, Try.f48.results.toList, [6], pures, Try.func48, show _ = some (Try.f48.body.getD .skip) by kernel_rfl, (Array.toArray_toList).symm, by kernel_rfl, by kernel_rfl, by kernel_rfl, by kernel_rfl, follows, callFunc_enter Try.func48 (by kernel_rfl) (by kernel_rfl)⟩
-- sentinel/sentinelref1.From
def N49 : Nat := 14
def keep49 : List Nat := [0, 2, 3, 5]
def res49 : List RV := [(.c 2 (some 8))]
def c49 : CC :=
 (.seq (.reg [⟨(some 2), (.alloc (.agg [(.u32 0), (.u32 0), (.u32 0), (.u32 0), (.u32 0), (.u32 0), (.u32 0), (.u32 0)])), none, 2⟩] [])
 (.seq (.reg [⟨(some 3), (.alloc (.agg [(.u32 0), (.u32 0), (.u32 0), (.u32 0), (.u32 0), (.u32 0), (.u32 0), (.u32 0)])), none, 2⟩] [])
 (.seq (.seq (.reg [⟨(some 4), (.mov (.t 0)), none, 2⟩, ⟨(some 5), (.bin .gtr (.t 4) (.c (.int 0))), none, 2⟩] [])
 (.cond (.t 5)
 (.reg [⟨(some 6), (.mov (.t 0)), none, 2⟩, ⟨(some 7), (.conv .iu32 (.t 6)), none, 2⟩, ⟨(some 8), (.mov (.t 0)), none, 2⟩, ⟨(some 9), (.bin .shr (.t 8) (.c (.u64 32))), none, 2⟩, ⟨(some 10), (.conv .iu32 (.t 9)), none, 2⟩, ⟨(some 11), (.iadA 8 1 (.t 3) (.c (.int 0))), none, 2⟩, ⟨none, (.store none (.t 11) (.t 7)), none, 2⟩, ⟨(some 12), (.iadA 8 1 (.t 3) (.c (.int 1))), none, 2⟩, ⟨none, (.store none (.t 12) (.t 10)), none, 2⟩] [])
 .skip))
 (.seq (.reg [⟨(some 13), (.load (some 8) (.t 3)), none, 2⟩, ⟨none, (.store (some 8) (.t 2) (.t 13)), none, 2⟩] [])
 .ret))))
theorem o49 : FnOK Try.prog 49 N49 res49 c49 := ⟨_, _, Try.f49.results.toList, [], pures, Try.func49, show _ = some (Try.f49.body.getD .skip) by kernel_rfl, (Array.toArray_toList).symm, by kernel_rfl, by kernel_rfl, by kernel_rfl, by kernel_rfl, follows, callFunc_enter Try.func49 (by kernel_rfl) (by kernel_rfl)⟩
-- slices.Grow[[]byte,byte]
def N50 : Nat := 27
def keep50 : List Nat := [0, 1, 4, 6, 16]
def res50 : List RV := [(.t 4)]
def c50 : CC :=
 (.seq (.reg [⟨(some 4), (.mov (.c (.sl true 0 0 (.agg []) true))), none, 2⟩] [])
 (.seq (.seq (.reg [⟨(some 5), (.mov (.t 1)), none, 2⟩, ⟨(some 6), (.bin .lss (.t 5) (.c (.int 0))), none, 2⟩] [])
 (.cond (.t 6)
 (.reg [⟨(some 7), (.mki 9 (.c (.str [99, 97, 110, 110, 111, 116, 32, 98, 101, 32, 110, 101, 103, 97, 116, 105, 118, 101]))), none, 2⟩, ⟨none, .bad, none, 2⟩] [])
 .skip))
 (.seq (.seq (.reg [⟨(some 8), (.mov (.t 1)), none, 2⟩, ⟨(some 9), (.mov (.t 0)), none, 2⟩, ⟨(some 10), (.cap (.t 9)), none, 2⟩, ⟨(some 11), (.mov (.t 0)), none, 2⟩, ⟨(some 12), (.len false (.t 11)), none, 2⟩, ⟨(some 13), (.bin .sub (.t 10) (.t 12)), none, 2⟩, ⟨(some 14), (.bin .sub (.t 8) (.t 13)), none, 2⟩, ⟨(some 1), (.mov (.t 14)), none, 2⟩] [])
 (.seq (.reg [⟨(some 15), (.mov (.t 1)), none, 2⟩, ⟨(some 16), (.bin .gtr (.t 15) (.c (.int 0))), none, 2⟩] [])
 (.cond (.t 16)
 (.reg [⟨(some 17), (.mov (.t 0)), none, 2⟩, ⟨(some 18), (.mov (.t 0)), none, 2⟩, ⟨(some 19), (.cap (.t 18)), none, 2⟩, ⟨(some 20), (.slcS 1 (.t 17) none (some (.t 19)) none), none, 2⟩, ⟨(some 21), (.mov (.t 1)), none, 2⟩, ⟨(some 22), .bad, none, 2⟩, ⟨(some 23), (.mov (.t 0)), none, 2⟩, ⟨(some 24), (.len false (.t 23)), none, 2⟩, ⟨(some 25), (.slcS 1 (.t 22) none (some (.t 24)) none), none, 2⟩, ⟨(some 0), (.mov (.t 25)), none, 2⟩] [])
 .skip)))
 (.seq (.reg [⟨(some 26), (.mov (.t 0)), none, 2⟩, ⟨(some 4), (.mov (.t 26)), none, 2⟩] [])
 .ret))))
theorem o50 : FnOK Try.prog 50 N50 res50 c50 := ⟨_, _, Try.f50.results.toList, [], pures, Try.func50, show _ = some (Try.f50.body.getD .skip) by kernel_rfl, (Array.toArray_toList).symm, by kernel_rfl, by kernel_rfl, by kernel_rfl, by kernel_rfl, follows, callFunc_enter Try.func50 (by kernel_rfl) (by kernel_rfl)⟩
-- sentinel/vault.read
def N51 : Nat := 36
def keep51 : List Nat := [0, 1, 4, 5, 6, 19]
def res51 : List RV := [(.c 4 (some 2)), (.t 5)]
def c51 : CC :=
 (.seq (.reg [⟨(some 4), (.alloc (.agg [(.int 0), (.sl true 0 0 (.agg []) true)])), none, 2⟩, ⟨(some 5), (.mov (.c (.bool false))), none, 2⟩] [])
 (.seq (.seq (.reg [⟨(some 7), (.mov (.t 1)), none, 2⟩, ⟨(some 8), (.len false (.t 7)), none, 2⟩, ⟨(some 9), (.bin .lss (.t 8) (.c (.int 25))), none, 2⟩, ⟨(some 10), (.mov (.t 9)), none, 2⟩, ⟨(some 11), (.mov (.t 1)), (some (10, false)), 2⟩, ⟨(some 12), (.len false (.t 11)), (some (10, false)), 2⟩, ⟨(some 13), (.mov (.t 1)), (some (10, false)), 2⟩, ⟨(some 14), (.iadS 1 (.t 13) (.c (.int 8))), (some (10, false)), 2⟩, ⟨(some 15), (.load none (.t 14)), (some (10, false)), 2⟩, ⟨(some 16), (.conv .u8i (.t 15)), (some (10, false)), 2⟩, ⟨(some 17), (.bin .add (.c (.int 25)) (.t 16)), (some (10, false)), 2⟩, ⟨(some 18), (.eq true .sc (.t 12) (.t 17)), (some (10, false)), 2⟩, ⟨(some 19), (.pick (.t 10) (.c (.bool true)) (.t 18)), none, 2⟩] [])
 (.cond (.t 19)
 (.seq (.reg [⟨(some 20), (.build [(.int 0), (.sl true 0 0 (.agg []) true)] []), none, 2⟩, ⟨none, (.store (some 2) (.t 4) (.t 20)), none, 2⟩, ⟨(some 5), (.mov (.c (.bool false))), none, 2⟩] [])
 .ret)
 .skip))
 (.seq (.reg [⟨(some 21), (.mov (.t 1)), none, 0⟩, ⟨(some 22), (.slcS 1 (.t 21) none (some (.c (.int 8))) none), none, 0⟩, ⟨(some 23), (.call (.c (.fn 32 [])) [(.t 22)]), none, 0⟩, ⟨(some 24), (.mov (.t 1)), none, 0⟩, ⟨(some 25), (.mov (.t 1)), none, 0⟩, ⟨(some 26), (.len false (.t 25)), none, 0⟩, ⟨(some 27), (.bin .sub (.t 26) (.c (.int 16))), none, 0⟩, ⟨(some 28), (.slcS 1 (.t 24) (some (.c (.int 9))) (some (.t 27)) none), none, 0⟩, ⟨(some 29), (.build [(.int 0), (.sl true 0 0 (.agg []) true)] [(0, (1, (.t 23))), (1, (1, (.t 28)))]), none, 0⟩, ⟨(some 6), (.alloc (.agg [(.int 0), (.sl true 0 0 (.agg []) true)])), none, 2⟩, ⟨none, (.store (some 2) (.t 6) (.t 29)), none, 2⟩] [])
 (.seq (.reg [⟨(some 30), (.load (some 2) (.t 6)), none, 1⟩, ⟨(some 31), (.mov (.t 0)), none, 0⟩, ⟨(some 32), (.load (some 2) (.t 6)), none, 1⟩, ⟨(some 33), (.call (.c (.fn 38 [])) [(.t 31), (.t 32)]), none, 0⟩, ⟨(some 34), (.mov (.t 1)), none, 0⟩, ⟨(some 35), (.call (.c (.fn 59 [])) [(.t 33), (.t 34)]), none, 0⟩, ⟨none, (.store (some 2) (.t 4) (.t 30)), none, 2⟩, ⟨(some 5), (.mov (.t 35)), none, 0⟩] [])
 .ret))))
theorem o51 : FnOK Try.prog 51 N51 res51 c51 := ⟨_, _, Try.f51.results.toList, [], pures, Try.func51, show _ = some (Try.f51.body.getD .skip) by kernel_rfl, (Array.toArray_toList).symm, by kernel_rfl, by kernel_rfl, by kernel_rfl, by kernel_rfl, follows, callFunc_enter Try.func51 (by kernel_rfl) (by kernel_rfl)⟩
-- sentinel/limb.Read
def N52 : Nat := 38
def keep52 : List Nat := [0, 2, 3, 4, 5, 6, 7, 10, 12, 13, 14, 15]
def res52 : List RV := [(.c 2 (some 8)), (.t 3)]
def c52 : CC :=
 (.seq (.reg [⟨(some 2), (.alloc (.agg [(.u32 0), (.u32 0), (.u32 0), (.u32 0), (.u32 0), (.u32 0), (.u32 0), (.u32 0)])), none, 2⟩, ⟨(some 3), (.mov (.c (.bool false))), none, 2⟩] [])
 (.seq (.reg [⟨(some 4), (.alloc (.agg [(.u32 0), (.u32 0), (.u32 0), (.u32 0), (.u32 0), (.u32 0), (.u32 0), (.u32 0)])), none, 2⟩] [])
 (.seq (.seq (.reg [⟨(some 8), (.mov (.t 0)), none, 2⟩, ⟨(some 9), (.len false (.t 8)), none, 2⟩, ⟨(some 10), (.bin .gtr (.t 9) (.c (.int 32))), none, 2⟩] [])
 (.cond (.t 10)
 (.seq (.reg [⟨(some 11), (.load (some 8) (.t 4)), none, 2⟩, ⟨none, (.store (some 8) (.t 2) (.t 11)), none, 2⟩, ⟨(some 3), (.mov (.c (.bool false))), none, 2⟩] [])
 .ret)
 .skip))
 (.seq (.seq (.reg [⟨(some 12), (.mov (.t 0)), none, 2⟩, ⟨(some 13), (.len false (.t 12)), none, 2⟩, ⟨(some 14), (.mov (.c (.int 0))), none, 2⟩] [])
 (.block 0 (.loop (.seq (.reg [⟨(some 15), (.bin .lss (.t 14) (.t 13)), none, 2⟩] [])
 (.seq (.cond (.t 15)
 .skip
 (.exit 0))
 (.seq (.block 1 (.seq (.reg [⟨(some 16), (.mov (.t 14)), none, 2⟩, ⟨(some 17), (.iadS 1 (.t 12) (.t 14)), none, 2⟩, ⟨(some 18), (.load none (.t 17)), none, 2⟩, ⟨(some 5), (.mov (.t 16)), none, 2⟩, ⟨(some 6), (.mov (.t 18)), none, 2⟩] [])
 (.seq (.reg [⟨(some 19), (.mov (.t 0)), none, 2⟩, ⟨(some 20), (.len false (.t 19)), none, 2⟩, ⟨(some 21), (.bin .sub (.t 20) (.c (.int 1))), none, 2⟩, ⟨(some 22), (.mov (.t 5)), none, 2⟩, ⟨(some 23), (.bin .sub (.t 21) (.t 22)), none, 2⟩, ⟨(some 7), (.mov (.t 23)), none, 2⟩] [])
 (.reg [⟨(some 24), (.mov (.t 7)), none, 0⟩, ⟨(some 25), (.bin .quo (.t 24) (.c (.int 4))), none, 0⟩, ⟨(some 26), (.iadA 8 1 (.t 4) (.t 25)), none, 0⟩, ⟨(some 27), (.load none (.t 26)), none, 1⟩, ⟨(some 28), (.mov (.t 6)), none, 0⟩, ⟨(some 29), (.conv .u8u32 (.t 28)), none, 0⟩, ⟨(some 30), (.mov (.t 7)), none, 0⟩, ⟨(some 31), (.bin .rem (.t 30) (.c (.int 4))), none, 0⟩, ⟨(some 32), (.bin .mul (.c (.int 8)) (.t 31)), none, 0⟩, ⟨(some 33), (.bin .shl (.t 29) (.t 32)), none, 0⟩, ⟨(some 34), (.bin .or (.t 27) (.t 33)), none, 0⟩, ⟨(some 35), (.iadA 8 1 (.t 4) (.t 25)), none, 0⟩, ⟨none, (.store none (.t 35) (.t 34)), none, 2⟩] []))))
 (.reg [⟨(some 36), (.bin .add (.t 14) (.c (.int 1))), none, 2⟩, ⟨(some 14), (.mov (.t 36)), none, 2⟩] [])))))))
 (.seq (.reg [⟨(some 37), (.load (some 8) (.t 4)), none, 2⟩, ⟨none, (.store (some 8) (.t 2) (.t 37)), none, 2⟩, ⟨(some 3), (.mov (.c (.bool true))), none, 2⟩] [])
 .ret)))))
theorem o52 : FnOK Try.prog 52 N52 res52 c52 := ⟨_, _, Try.f52.results.toList, [], pures, Try.func52, show _ = some (Try.f52.body.getD .skip) by kernel_rfl, (Array.toArray_toList).symm, by kernel_rfl, by kernel_rfl, by kernel_rfl, by kernel_rfl, follows, callFunc_enter Try.func52 (by kernel_rfl) (by kernel_rfl)⟩
-- (*sentinel/vault.Vault).records$1
def N53 : Nat := 32
def keep53 : List Nat := [0, 1, 3, 5, 6, 7, 8, 9, 30]
def res53 : List RV := []
def c53 : CC :=
 (.seq (.reg [⟨(some 8), (.mov (.c (.int 0))), none, 2⟩] [])
 (.block 0 (.loop (.seq (.reg [⟨(some 9), (.bin .lss (.t 8) (.c (.int 8))), none, 2⟩] [])
 (.seq (.cond (.t 9)
 .skip
 (.exit 0))
 (.seq (.block 1 (.seq (.reg [⟨(some 10), (.mov (.t 8)), none, 2⟩, ⟨(some 3), (.mov (.t 10)), none, 2⟩] [])
 (.seq (.reg [⟨(some 12), (.load none (.t 1)), none, 2⟩, ⟨(some 13), (.mov (.t 3)), none, 2⟩, ⟨(some 14), (.call (.c (.fn 31 [])) [(.t 12), (.t 13)]), none, 2⟩, ⟨(some 11), (.mov (.t 14)), none, 2⟩, ⟨(some 15), (.ext (.t 11) 0), none, 2⟩, ⟨(some 16), (.ext (.t 11) 1), none, 2⟩, ⟨(some 5), (.alloc (.agg [(.int 0), (.sl true 0 0 (.agg []) true)])), none, 2⟩, ⟨(some 4), (.mov (.t 15)), none, 2⟩, ⟨none, (.store (some 2) (.t 5) (.t 16)), none, 2⟩] [])
 (.seq (.reg [⟨(some 18), (.fad 1 (.t 5)), none, 2⟩, ⟨(some 19), (.load none (.t 18)), none, 2⟩, ⟨(some 20), (.call (.c (.fn 54 [])) [(.t 19)]), none, 2⟩, ⟨(some 17), (.mov (.t 20)), none, 2⟩, ⟨(some 21), (.ext (.t 17) 0), none, 2⟩, ⟨(some 22), (.ext (.t 17) 1), none, 2⟩, ⟨(some 6), (.alloc (.agg [(.int 0), (.str []), (.sl true 0 0 (.agg []) true), (.u32 0), (.u32 0), (.u32 0), (.u32 0), (.u32 0), (.u32 0), (.u32 0), (.u32 0), (.u32 0), (.u32 0), (.u32 0), (.u32 0), (.u32 0), (.u32 0), (.u32 0), (.u32 0), (.sl true 0 0 (.agg []) true), (.int 0), (.int 0), (.int 0)])), none, 2⟩, ⟨none, (.store (some 23) (.t 6) (.t 21)), none, 2⟩, ⟨(some 7), (.mov (.t 22)), none, 2⟩] [])
 (.seq (.reg [⟨(some 23), (.mov (.t 7)), none, 2⟩, ⟨(some 24), (.mov (.t 23)), none, 2⟩, ⟨(some 25), (.mov (.t 0)), (some (24, true)), 2⟩, ⟨(some 26), (.mov (.t 3)), (some (24, true)), 2⟩, ⟨(some 27), (.load (some 23) (.t 6)), (some (24, true)), 2⟩, ⟨(some 28), (.call (.t 25) [(.t 26), (.t 27)]), (some (24, true)), 2⟩, ⟨(some 29), (.un .not (.t 28)), (some (24, true)), 2⟩, ⟨(some 30), (.pick (.t 24) (.t 29) (.c (.bool false))), none, 2⟩] [])
 (.cond (.t 30)
 .ret
 .skip))))))
 (.reg [⟨(some 31), (.bin .add (.t 8) (.c (.int 1))), none, 2⟩, ⟨(some 8), (.mov (.t 31)), none, 2⟩] [])))))))
theorem o53 : FnOK Try.prog 53 N53 res53 c53 := ⟨_, _, Try.f53.results.toList, [], pures, Try.func53, show _ = some (Try.f53.body.getD .skip) by kernel_rfl, (Array.toArray_toList).symm, by kernel_rfl, by kernel_rfl, by kernel_rfl, by kernel_rfl, follows, callFunc_enter Try.func53 (by kernel_rfl) (by kernel_rfl)⟩
theorem it53 : ITok Try.prog (tiOf Try.prog) 53 ⟨c53, N53, keep53⟩ := ⟨_, Try.f53.body.getD .skip, [], pures, Try.func53, by kernel_rfl, by kernel_rfl, by kernel_rfl, by kernel_rfl, by kernel_rfl, by kernel_rfl, callFunc_enter Try.func53 (by kernel_rfl) (by kernel_rfl)⟩
-- sentinel/wire.ReadRecord
def N54 : Nat := 60
def keep54 : List Nat := [0, 2, 3, 4, 5, 6, 7, 57]
def res54 : List RV := [(.c 2 (some 23)), (.t 3)]
def c54 : CC :=
 (.seq (.reg [⟨(some 2), (.alloc (.agg [(.int 0), (.str []), (.sl true 0 0 (.agg []) true), (.u32 0), (.u32 0), (.u32 0), (.u32 0), (.u32 0), (.u32 0), (.u32 0), (.u32 0), (.u32 0), (.u32 0), (.u32 0), (.u32 0), (.u32 0), (.u32 0), (.u32 0), (.u32 0), (.sl true 0 0 (.agg []) true), (.int 0), (.int 0), (.int 0)])), none, 2⟩, ⟨(some 3), (.mov (.c (.bool false))), none, 2⟩] [])
 (.seq (.reg [⟨(some 8), (.mov (.t 0)), none, 2⟩, ⟨(some 9), (.build [(.sl true 0 0 (.agg []) true), (.bool false)] [(0, (1, (.t 8)))]), none, 2⟩, ⟨(some 10), (.box (.t 9)), none, 2⟩, ⟨(some 4), (.mov (.t 10)), none, 2⟩] [])
 (.seq (.reg [⟨(some 11), (.mov (.t 4)), none, 2⟩, ⟨(some 12), (.call (.c (.fn 60 [])) [(.t 11), (.c (.int 1))]), none, 2⟩, ⟨(some 13), (.build [(.int 0), (.str []), (.sl true 0 0 (.agg []) true), (.u32 0), (.u32 0), (.u32 0), (.u32 0), (.u32 0), (.u32 0), (.u32 0), (.u32 0), (.u32 0), (.u32 0), (.u32 0), (.u32 0), (.u32 0), (.u32 0), (.u32 0), (.u32 0), (.sl true 0 0 (.agg []) true), (.int 0), (.int 0), (.int 0)] [(0, (1, (.t 12)))]), none, 2⟩, ⟨(some 5), (.alloc (.agg [(.int 0), (.str []), (.sl true 0 0 (.agg []) true), (.u32 0), (.u32 0), (.u32 0), (.u32 0), (.u32 0), (.u32 0), (.u32 0), (.u32 0), (.u32 0), (.u32 0), (.u32 0), (.u32 0), (.u32 0), (.u32 0), (.u32 0), (.u32 0), (.sl true 0 0 (.agg []) true), (.int 0), (.int 0), (.int 0)])), none, 2⟩, ⟨none, (.store (some 23) (.t 5) (.t 13)), none, 2⟩] [])
 (.seq (.reg [⟨(some 14), (.mov (.t 4)), none, 2⟩, ⟨(some 15), (.call (.c (.fn 61 [])) [(.t 14)]), none, 2⟩, ⟨(some 16), (.conv .bstr (.t 15)), none, 2⟩, ⟨(some 17), (.fad 1 (.t 5)), none, 2⟩, ⟨none, (.store none (.t 17) (.t 16)), none, 2⟩] [])
 (.seq (.reg [⟨(some 18), (.mov (.t 4)), none, 2⟩, ⟨(some 19), (.call (.c (.fn 61 [])) [(.t 18)]), none, 2⟩, ⟨(some 20), (.fad 2 (.t 5)), none, 2⟩, ⟨none, (.store none (.t 20) (.t 19)), none, 2⟩] [])
 (.seq (.reg [⟨(some 21), (.mov (.t 4)), none, 2⟩, ⟨(some 22), (.call (.c (.fn 61 [])) [(.t 21)]), none, 2⟩, ⟨(some 23), (.fad 19 (.t 5)), none, 2⟩, ⟨none, (.store none (.t 23) (.t 22)), none, 2⟩] [])
 (.seq (.reg [⟨(some 24), (.mov (.t 4)), none, 2⟩, ⟨(some 25), (.call (.c (.fn 62 [])) [(.t 24), (.c (.int 4))]), none, 2⟩, ⟨(some 26), (.fad 3 (.t 5)), none, 2⟩, ⟨none, (.store (some 8) (.t 26) (.t 25)), none, 2⟩] [])
 (.seq (.reg [⟨(some 27), (.mov (.t 4)), none, 2⟩, ⟨(some 28), (.call (.c (.fn 62 [])) [(.t 27), (.c (.int 4))]), none, 2⟩, ⟨(some 29), (.fad 11 (.t 5)), none, 2⟩, ⟨none, (.store (some 8) (.t 29) (.t 28)), none, 2⟩] [])
 (.seq (.reg [⟨(some 30), (.mov (.t 4)), none, 2⟩, ⟨(some 31), (.call (.c (.fn 60 [])) [(.t 30), (.c (.int 1))]), none, 2⟩, ⟨(some 32), (.fad 20 (.t 5)), none, 2⟩, ⟨none, (.store none (.t 32) (.t 31)), none, 2⟩] [])
 (.seq (.reg [⟨(some 33), (.mov (.t 4)), none, 2⟩, ⟨(some 34), (.call (.c (.fn 60 [])) [(.t 33), (.c (.int 8))]), none, 2⟩, ⟨(some 35), (.fad 21 (.t 5)), none, 2⟩, ⟨none, (.store none (.t 35) (.t 34)), none, 2⟩] [])
 (.seq (.reg [⟨(some 36), (.mov (.t 4)), none, 2⟩, ⟨(some 37), (.call (.c (.fn 60 [])) [(.t 36), (.c (.int 8))]), none, 2⟩, ⟨(some 38), (.fad 22 (.t 5)), none, 2⟩, ⟨none, (.store none (.t 38) (.t 37)), none, 2⟩] [])
 (.seq (.reg [⟨(some 40), (.load (some 23) (.t 5)), none, 2⟩, ⟨(some 41), (.call (.c (.fn 25 [])) [(.t 40)]), none, 2⟩, ⟨(some 39), (.mov (.t 41)), none, 2⟩, ⟨(some 42), (.ext (.t 39) 0), none, 2⟩, ⟨(some 43), (.ext (.t 39) 1), none, 2⟩, ⟨(some 6), (.mov (.t 42)), none, 2⟩, ⟨(some 7), (.mov (.t 43)), none, 2⟩] [])
 (.seq (.seq (.reg [⟨(some 44), (.mov (.t 7)), none, 2⟩, ⟨(some 45), (.un .not (.t 44)), none, 2⟩, ⟨(some 46), (.mov (.t 45)), none, 2⟩, ⟨(some 47), (.mov (.t 4)), (some (46, false)), 2⟩, ⟨(some 48), (.nilck (.t 47)), (some (46, false)), 2⟩, ⟨(some 49), (.fad 1 (.t 48)), (some (46, false)), 2⟩, ⟨(some 50), (.load none (.t 49)), (some (46, false)), 2⟩, ⟨(some 51), (.pick (.t 46) (.c (.bool true)) (.t 50)), none, 2⟩, ⟨(some 52), (.mov (.t 51)), none, 2⟩, ⟨(some 53), (.mov (.t 6)), (some (52, false)), 2⟩, ⟨(some 54), (.mov (.t 0)), (some (52, false)), 2⟩, ⟨(some 55), (.call (.c (.fn 59 [])) [(.t 53), (.t 54)]), (some (52, false)), 2⟩, ⟨(some 56), (.un .not (.t 55)), (some (52, false)), 2⟩, ⟨(some 57), (.pick (.t 52) (.c (.bool true)) (.t 56)), none, 2⟩] [])
 (.cond (.t 57)
 (.seq (.reg [⟨(some 58), (.build [(.int 0), (.str []), (.sl true 0 0 (.agg []) true), (.u32 0), (.u32 0), (.u32 0), (.u32 0), (.u32 0), (.u32 0), (.u32 0), (.u32 0), (.u32 0), (.u32 0), (.u32 0), (.u32 0), (.u32 0), (.u32 0), (.u32 0), (.u32 0), (.sl true 0 0 (.agg []) true), (.int 0), (.int 0), (.int 0)] []), none, 2⟩, ⟨none, (.store (some 23) (.t 2) (.t 58)), none, 2⟩, ⟨(some 3), (.mov (.c (.bool false))), none, 2⟩] [])
 .ret)
 .skip))
 (.seq (.reg [⟨(some 59), (.load (some 23) (.t 5)), none, 2⟩, ⟨none, (.store (some 23) (.t 2) (.t 59)), none, 2⟩, ⟨(some 3), (.mov (.c (.bool true))), none, 2⟩] [])
 .ret))))))))))))))
theorem o54 : FnOK Try.prog 54 N54 res54 c54 := ⟨_, _, Try.f54.results.toList, [], pures, Try.func54, show _ = some (Try.f54.body.getD .skip) by kernel_rfl, (Array.toArray_toList).symm, by kernel_rfl, by kernel_rfl, by kernel_rfl, by kernel_rfl, follows, callFunc_enter Try.func54 (by kernel_rfl) (by kernel_rfl)⟩
-- slices.pdqsortOrdered[string]
def N55 : Nat := 134
def keep55 : List Nat := [0, 1, 2, 3, 8, 9, 10, 11, 12, 13, 14, 15, 16, 17, 18, 23, 29, 35, 50, 68, 72, 87, 113]
def res55 : List RV := []
def c55 : CC :=
 (.seq (.reg [⟨(some 8), (.mov (.c (.bool true))), none, 2⟩] [])
 (.seq (.reg [⟨(some 9), (.mov (.c (.bool true))), none, 2⟩] [])
 (.block 0 (.loop (.block 1 (.seq (.reg [⟨(some 19), (.mov (.t 2)), none, 2⟩, ⟨(some 20), (.mov (.t 1)), none, 2⟩, ⟨(some 21), (.bin .sub (.t 19) (.t 20)), none, 2⟩, ⟨(some 10), (.mov (.t 21)), none, 2⟩] [])
 (.seq (.seq (.reg [⟨(some 22), (.mov (.t 10)), none, 2⟩, ⟨(some 23), (.bin .leq (.t 22) (.c (.int 12))), none, 2⟩] [])
 (.cond (.t 23)
 (.seq (.reg [⟨(some 24), (.mov (.t 0)), none, 2⟩, ⟨(some 25), (.mov (.t 1)), none, 2⟩, ⟨(some 26), (.mov (.t 2)), none, 2⟩, ⟨(some 27), (.call (.c (.fn 63 [])) [(.t 24), (.t 25), (.t 26)]), none, 2⟩] [])
 .ret)
 .skip))
 (.seq (.seq (.reg [⟨(some 28), (.mov (.t 3)), none, 2⟩, ⟨(some 29), (.eq false .sc (.t 28) (.c (.int 0))), none, 2⟩] [])
 (.cond (.t 29)
 (.seq (.reg [⟨(some 30), (.mov (.t 0)), none, 2⟩, ⟨(some 31), (.mov (.t 1)), none, 2⟩, ⟨(some 32), (.mov (.t 2)), none, 2⟩, ⟨(some 33), (.call (.c (.fn 64 [])) [(.t 30), (.t 31), (.t 32)]), none, 2⟩] [])
 .ret)
 .skip))
 (.seq (.seq (.reg [⟨(some 34), (.mov (.t 8)), none, 2⟩, ⟨(some 35), (.un .not (.t 34)), none, 2⟩] [])
 (.cond (.t 35)
 (.seq (.reg [⟨(some 36), (.mov (.t 0)), none, 2⟩, ⟨(some 37), (.mov (.t 1)), none, 2⟩, ⟨(some 38), (.mov (.t 2)), none, 2⟩, ⟨(some 39), (.call (.c (.fn 65 [])) [(.t 36), (.t 37), (.t 38)]), none, 2⟩] [])
 (.reg [⟨(some 40), (.mov (.t 3)), none, 2⟩, ⟨(some 41), (.bin .sub (.t 40) (.c (.int 1))), none, 2⟩, ⟨(some 3), (.mov (.t 41)), none, 2⟩] []))
 .skip))
 (.seq (.reg [⟨(some 43), (.mov (.t 0)), none, 2⟩, ⟨(some 44), (.mov (.t 1)), none, 2⟩, ⟨(some 45), (.mov (.t 2)), none, 2⟩, ⟨(some 46), (.call (.c (.fn 66 [])) [(.t 43), (.t 44), (.t 45)]), none, 2⟩, ⟨(some 42), (.mov (.t 46)), none, 2⟩, ⟨(some 47), (.ext (.t 42) 0), none, 2⟩, ⟨(some 48), (.ext (.t 42) 1), none, 2⟩, ⟨(some 11), (.mov (.t 47)), none, 2⟩, ⟨(some 12), (.mov (.t 48)), none, 2⟩] [])
 (.seq (.seq (.reg [⟨(some 49), (.mov (.t 12)), none, 2⟩, ⟨(some 50), (.eq false .sc (.t 49) (.c (.int 2))), none, 2⟩] [])
 (.cond (.t 50)
 (.seq (.reg [⟨(some 51), (.mov (.t 0)), none, 2⟩, ⟨(some 52), (.mov (.t 1)), none, 2⟩, ⟨(some 53), (.mov (.t 2)), none, 2⟩, ⟨(some 54), (.call (.c (.fn 67 [])) [(.t 51), (.t 52), (.t 53)]), none, 2⟩] [])
 (.seq (.reg [⟨(some 55), (.mov (.t 2)), none, 2⟩, ⟨(some 56), (.bin .sub (.t 55) (.c (.int 1))), none, 2⟩, ⟨(some 57), (.mov (.t 11)), none, 2⟩, ⟨(some 58), (.mov (.t 1)), none, 2⟩, ⟨(some 59), (.bin .sub (.t 57) (.t 58)), none, 2⟩, ⟨(some 60), (.bin .sub (.t 56) (.t 59)), none, 2⟩, ⟨(some 11), (.mov (.t 60)), none, 2⟩] [])
 (.reg [⟨(some 12), (.mov (.c (.int 1))), none, 2⟩] [])))
 .skip))
 (.seq (.seq (.reg [⟨(some 61), (.mov (.t 8)), none, 2⟩, ⟨(some 62), (.mov (.t 61)), none, 2⟩, ⟨(some 63), (.mov (.t 9)), (some (62, true)), 2⟩, ⟨(some 64), (.pick (.t 62) (.t 63) (.c (.bool false))), none, 2⟩, ⟨(some 65), (.mov (.t 64)), none, 2⟩, ⟨(some 66), (.mov (.t 12)), (some (65, true)), 2⟩, ⟨(some 67), (.eq false .sc (.t 66) (.c (.int 1))), (some (65, true)), 2⟩, ⟨(some 68), (.pick (.t 65) (.t 67) (.c (.bool false))), none, 2⟩] [])
 (.cond (.t 68)
 (.seq (.reg [⟨(some 69), (.mov (.t 0)), none, 2⟩, ⟨(some 70), (.mov (.t 1)), none, 2⟩, ⟨(some 71), (.mov (.t 2)), none, 2⟩, ⟨(some 72), (.call (.c (.fn 68 [])) [(.t 69), (.t 70), (.t 71)]), none, 2⟩] [])
 (.cond (.t 72)
 .ret
 .skip))
 .skip))
 (.seq (.seq (.reg [⟨(some 73), (.mov (.t 1)), none, 0⟩, ⟨(some 74), (.bin .gtr (.t 73) (.c (.int 0))), none, 0⟩, ⟨(some 75), (.mov (.t 74)), none, 0⟩, ⟨(some 76), (.mov (.t 0)), (some (75, true)), 0⟩, ⟨(some 77), (.mov (.t 1)), (some (75, true)), 0⟩, ⟨(some 78), (.bin .sub (.t 77) (.c (.int 1))), (some (75, true)), 0⟩, ⟨(some 79), (.iadS 1 (.t 76) (.t 78)), (some (75, true)), 1⟩, ⟨(some 80), (.load none (.t 79)), (some (75, true)), 1⟩, ⟨(some 81), (.mov (.t 0)), (some (75, true)), 0⟩, ⟨(some 82), (.mov (.t 11)), (some (75, true)), 0⟩, ⟨(some 83), (.iadS 1 (.t 81) (.t 82)), (some (75, true)), 1⟩, ⟨(some 84), (.load none (.t 83)), (some (75, true)), 1⟩, ⟨(some 85), (.call (.c (.fn 69 [])) [(.t 80), (.t 84)]), (some (75, true)), 0⟩, ⟨(some 86), (.un .not (.t 85)), (some (75, true)), 0⟩, ⟨(some 87), (.pick (.t 75) (.t 86) (.c (.bool false))), none, 0⟩] [])
 (.cond (.t 87)
 (.seq (.reg [⟨(some 88), (.mov (.t 0)), none, 2⟩, ⟨(some 89), (.mov (.t 1)), none, 2⟩, ⟨(some 90), (.mov (.t 2)), none, 2⟩, ⟨(some 91), (.mov (.t 11)), none, 2⟩, ⟨(some 92), (.call (.c (.fn 70 [])) [(.t 88), (.t 89), (.t 90), (.t 91)]), none, 2⟩, ⟨(some 13), (.mov (.t 92)), none, 2⟩] [])
 (.seq (.reg [⟨(some 93), (.mov (.t 13)), none, 2⟩, ⟨(some 1), (.mov (.t 93)), none, 2⟩] [])
 (.exit 1)))
 .skip))
 (.seq (.reg [⟨(some 95), (.mov (.t 0)), none, 2⟩, ⟨(some 96), (.mov (.t 1)), none, 2⟩, ⟨(some 97), (.mov (.t 2)), none, 2⟩, ⟨(some 98), (.mov (.t 11)), none, 2⟩, ⟨(some 99), (.call (.c (.fn 71 [])) [(.t 95), (.t 96), (.t 97), (.t 98)]), none, 2⟩, ⟨(some 94), (.mov (.t 99)), none, 2⟩, ⟨(some 100), (.ext (.t 94) 0), none, 2⟩, ⟨(some 101), (.ext (.t 94) 1), none, 2⟩, ⟨(some 14), (.mov (.t 100)), none, 2⟩, ⟨(some 15), (.mov (.t 101)), none, 2⟩] [])
 (.seq (.reg [⟨(some 102), (.mov (.t 15)), none, 2⟩, ⟨(some 9), (.mov (.t 102)), none, 2⟩] [])
 (.seq (.reg [⟨(some 103), (.mov (.t 14)), none, 2⟩, ⟨(some 104), (.mov (.t 1)), none, 2⟩, ⟨(some 105), (.bin .sub (.t 103) (.t 104)), none, 2⟩, ⟨(some 106), (.mov (.t 2)), none, 2⟩, ⟨(some 107), (.mov (.t 14)), none, 2⟩, ⟨(some 108), (.bin .sub (.t 106) (.t 107)), none, 2⟩, ⟨(some 16), (.mov (.t 105)), none, 2⟩, ⟨(some 17), (.mov (.t 108)), none, 2⟩] [])
 (.seq (.reg [⟨(some 109), (.mov (.t 10)), none, 2⟩, ⟨(some 110), (.bin .quo (.t 109) (.c (.int 8))), none, 2⟩, ⟨(some 18), (.mov (.t 110)), none, 2⟩] [])
 (.seq (.reg [⟨(some 111), (.mov (.t 16)), none, 2⟩, ⟨(some 112), (.mov (.t 17)), none, 2⟩, ⟨(some 113), (.bin .lss (.t 111) (.t 112)), none, 2⟩] [])
 (.cond (.t 113)
 (.seq (.reg [⟨(some 114), (.mov (.t 16)), none, 2⟩, ⟨(some 115), (.mov (.t 18)), none, 2⟩, ⟨(some 116), (.bin .geq (.t 114) (.t 115)), none, 2⟩, ⟨(some 8), (.mov (.t 116)), none, 2⟩] [])
 (.seq (.reg [⟨(some 117), (.mov (.t 0)), none, 2⟩, ⟨(some 118), (.mov (.t 1)), none, 2⟩, ⟨(some 119), (.mov (.t 14)), none, 2⟩, ⟨(some 120), (.mov (.t 3)), none, 2⟩, ⟨(some 121), (.call (.c (.fn 55 [])) [(.t 117), (.t 118), (.t 119), (.t 120)]), none, 2⟩] [])
 (.reg [⟨(some 122), (.mov (.t 14)), none, 2⟩, ⟨(some 123), (.bin .add (.t 122) (.c (.int 1))), none, 2⟩, ⟨(some 1), (.mov (.t 123)), none, 2⟩] [])))
 (.seq (.reg [⟨(some 124), (.mov (.t 17)), none, 2⟩, ⟨(some 125), (.mov (.t 18)), none, 2⟩, ⟨(some 126), (.bin .geq (.t 124) (.t 125)), none, 2⟩, ⟨(some 8), (.mov (.t 126)), none, 2⟩] [])
 (.seq (.reg [⟨(some 127), (.mov (.t 0)), none, 2⟩, ⟨(some 128), (.mov (.t 14)), none, 2⟩, ⟨(some 129), (.bin .add (.t 128) (.c (.int 1))), none, 2⟩, ⟨(some 130), (.mov (.t 2)), none, 2⟩, ⟨(some 131), (.mov (.t 3)), none, 2⟩, ⟨(some 132), (.call (.c (.fn 55 [])) [(.t 127), (.t 129), (.t 130), (.t 131)]), none, 2⟩] [])
 (.reg [⟨(some 133), (.mov (.t 14)), none, 2⟩, ⟨(some 2), (.mov (.t 133)), none, 2⟩] []))))))))))))))))))))))
theorem o55 : FnOK Try.prog 55 N55 res55 c55 := ⟨_, _, Try.f55.results.toList, [], pures, Try.func55, show _ = some (Try.f55.body.getD .skip) by kernel_rfl, (Array.toArray_toList).symm, by kernel_rfl, by kernel_rfl, by kernel_rfl, by kernel_rfl, follows, callFunc_enter Try.func55 (by kernel_rfl) (by kernel_rfl)⟩
-- math/bits.Len
def N56 : Nat := 8
def keep56 : List Nat := [0, 2]
def res56 : List RV := [(.t 2)]
def c56 : CC :=
 (.seq (.reg [⟨(some 2), (.mov (.c (.int 0))), none, 2⟩] [])
 (.seq (.cond (.c (.bool false))
 (.seq (.reg [⟨(some 3), (.mov (.t 0)), none, 2⟩, ⟨(some 4), (.conv .u64u32 (.t 3)), none, 2⟩, ⟨(some 5), (.call (.c (.fn 58 [])) [(.t 4)]), none, 2⟩, ⟨(some 2), (.mov (.t 5)), none, 2⟩] [])
 .ret)
 .skip)
 (.seq (.reg [⟨(some 6), (.mov (.t 0)), none, 2⟩, ⟨(some 7), (.call (.c (.fn 72 [])) [(.t 6)]), none, 2⟩, ⟨(some 2), (.mov (.t 7)), none, 2⟩] [])
 .ret)))
theorem o56 : FnOK Try.prog 56 N56 res56 c56 := ⟨_, _, Try.f56.results.toList, [], pures, Try.func56, show _ = some (Try.f56.body.getD .skip) by kernel_rfl, (Array.toArray_toList).symm, by kernel_rfl, by kernel_rfl, by kernel_rfl, by kernel_rfl, follows, callFunc_enter Try.func56 (by kernel_rfl) (by kernel_rfl)⟩
-- sentinel/sponge.Of
def N57 : Nat := 6
def keep57 : List Nat := [0, 2]
def res57 : List RV := [(.c 2 (some 16))]
def c57 : CC :=
 (.seq (.reg [⟨(some 2), (.alloc (.agg [(.u8 0), (.u8 0), (.u8 0), (.u8 0), (.u8 0), (.u8 0), (.u8 0), (.u8 0), (.u8 0), (.u8 0), (.u8 0), (.u8 0), (.u8 0), (.u8 0), (.u8 0), (.u8 0)])), none, 2⟩] [])
 (.seq (.reg [⟨(some 3), (.call (.c (.fn 73 [])) [(.c (.sl true 0 0 (.agg []) true))]), none, 2⟩, ⟨(some 4), (.mov (.t 0)), none, 2⟩, ⟨(some 5), (.call (.c (.fn 74 [])) [(.t 3), (.t 4)]), none, 2⟩, ⟨none, (.store (some 16) (.t 2) (.t 5)), none, 2⟩] [])
 .ret))
theorem o57 : FnOK Try.prog 57 N57 res57 c57 := ⟨_, _, Try.f57.results.toList, [], pures, Try.func57, show _ = some (Try.f57.body.getD .skip) by kernel_rfl, (Array.toArray_toList).symm, by kernel_rfl, by kernel_rfl, by kernel_rfl, by kernel_rfl, follows, callFunc_enter Try.func57 (by kernel_rfl) (by kernel_rfl)⟩
-- math/bits.Len32
def N58 : Nat := 19
def keep58 : List Nat := [0, 2, 4, 8]
def res58 : List RV := [(.t 2)]
def c58 : CC :=
 (.seq (.reg [⟨(some 2), (.mov (.c (.int 0))), none, 2⟩] [])
 (.seq (.seq (.reg [⟨(some 3), (.mov (.t 0)), none, 2⟩, ⟨(some 4), (.bin .geq (.t 3) (.c (.u32 65536))), none, 2⟩] [])
 (.cond (.t 4)
 (.seq (.reg [⟨(some 5), (.mov (.t 0)), none, 2⟩, ⟨(some 6), (.bin .shr (.t 5) (.c (.u64 16))), none, 2⟩, ⟨(some 0), (.mov (.t 6)), none, 2⟩] [])
 (.reg [⟨(some 2), (.mov (.c (.int 16))), none, 2⟩] []))
 .skip))
 (.seq (.seq (.reg [⟨(some 7), (.mov (.t 0)), none, 2⟩, ⟨(some 8), (.bin .geq (.t 7) (.c (.u32 256))), none, 2⟩] [])
 (.cond (.t 8)
 (.seq (.reg [⟨(some 9), (.mov (.t 0)), none, 2⟩, ⟨(some 10), (.bin .shr (.t 9) (.c (.u64 8))), none, 2⟩, ⟨(some 0), (.mov (.t 10)), none, 2⟩] [])
 (.reg [⟨(some 11), (.mov (.t 2)), none, 2⟩, ⟨(some 12), (.bin .add (.t 11) (.c (.int 8))), none, 2⟩, ⟨(some 2), (.mov (.t 12)), none, 2⟩] []))
 .skip))
 (.seq (.reg [⟨(some 13), (.mov (.t 2)), none, 2⟩, ⟨(some 14), (.mov (.t 0)), none, 2⟩, ⟨(some 15), (.conv .u32u8 (.t 14)), none, 2⟩, ⟨(some 16), (.idx (.c (.str [0, 1, 2, 2, 3, 3, 3, 3, 4, 4, 4, 4, 4, 4, 4, 4, 5, 5, 5, 5, 5, 5, 5, 5, 5, 5, 5, 5, 5, 5, 5, 5, 6, 6, 6, 6, 6, 6, 6, 6, 6, 6, 6, 6, 6, 6, 6, 6, 6, 6, 6, 6, 6, 6, 6, 6, 6, 6, 6, 6, 6, 6, 6, 6, 7, 7, 7, 7, 7, 7, 7, 7, 7, 7, 7, 7, 7, 7, 7, 7, 7, 7, 7, 7, 7, 7, 7, 7, 7, 7, 7, 7, 7, 7, 7, 7, 7, 7, 7, 7, 7, 7, 7, 7, 7, 7, 7, 7, 7, 7, 7, 7, 7, 7, 7, 7, 7, 7, 7, 7, 7, 7, 7, 7, 7, 7, 7, 7, 8, 8, 8, 8, 8, 8, 8, 8, 8, 8, 8, 8, 8, 8, 8, 8, 8, 8, 8, 8, 8, 8, 8, 8, 8, 8, 8, 8, 8, 8, 8, 8, 8, 8, 8, 8, 8, 8, 8, 8, 8, 8, 8, 8, 8, 8, 8, 8, 8, 8, 8, 8, 8, 8, 8, 8, 8, 8, 8, 8, 8, 8, 8, 8, 8, 8, 8, 8, 8, 8, 8, 8, 8, 8, 8, 8, 8, 8, 8, 8, 8, 8, 8, 8, 8, 8, 8, 8, 8, 8, 8, 8, 8, 8, 8, 8, 8, 8, 8, 8, 8, 8, 8, 8, 8, 8, 8, 8, 8, 8, 8, 8, 8, 8, 8, 8, 8, 8, 8, 8, 8, 8, 8, 8, 8, 8, 8, 8])) (.t 15)), none, 2⟩, ⟨(some 17), (.conv .u8i (.t 16)), none, 2⟩, ⟨(some 18), (.bin .add (.t 13) (.t 17)), none, 2⟩, ⟨(some 2), (.mov (.t 18)), none, 2⟩] [])
 .ret))))
theorem o58 : FnOK Try.prog 58 N58 res58 c58 := ⟨_, _, Try.f58.results.toList, [], pures, Try.func58, show _ = some (Try.f58.body.getD .skip) by kernel_rfl, (Array.toArray_toList).symm, by kernel_rfl, by kernel_rfl, by kernel_rfl, by kernel_rfl, follows, callFunc_enter Try.func58 (by kernel_rfl) (by kernel_rfl)⟩
-- bytes.Equal
def N59 : Nat := 10
def keep59 : List Nat := [0, 1, 4]
def res59 : List RV := [(.t 4)]
def c59 : CC :=
 (.seq (.reg [⟨(some 4), (.mov (.c (.bool false))), none, 2⟩] [])
 (.seq (.reg [⟨(some 5), (.mov (.t 0)), none, 2⟩, ⟨(some 6), (.conv .bstr (.t 5)), none, 2⟩, ⟨(some 7), (.mov (.t 1)), none, 2⟩, ⟨(some 8), (.conv .bstr (.t 7)), none, 2⟩, ⟨(some 9), (.eq false .sc (.t 6) (.t 8)), none, 2⟩, ⟨(some 4), (.mov (.t 9)), none, 2⟩] [])
 .ret))
theorem o59 : FnOK Try.prog 59 N59 res59 c59 := ⟨_, _, Try.f59.results.toList, [], pures, Try.func59, show _ = some (Try.f59.body.getD .skip) by kernel_rfl, (Array.toArray_toList).symm, by kernel_rfl, by kernel_rfl, by kernel_rfl, by kernel_rfl, follows, callFunc_enter Try.func59 (by kernel_rfl) (by kernel_rfl)⟩
-- (*sentinel/wire.reader).number
def N60 : Nat := 18
def keep60 : List Nat := [0, 1, 4, 5]
def res60 : List RV := [(.t 4)]
def c60 : CC :=
 (.seq (.reg [⟨(some 4), (.mov (.c (.int 0))), none, 2⟩] [])
 (.seq (.reg [⟨(some 6), (.mov (.t 0)), none, 2⟩, ⟨(some 7), (.mov (.t 1)), none, 2⟩, ⟨(some 8), (.call (.c (.fn 62 [])) [(.t 6), (.t 7)]), none, 2⟩, ⟨(some 5), (.alloc (.agg [(.u32 0), (.u32 0), (.u32 0), (.u32 0), (.u32 0), (.u32 0), (.u32 0), (.u32 0)])), none, 2⟩, ⟨none, (.store (some 8) (.t 5) (.t 8)), none, 2⟩] [])
 (.seq (.reg [⟨(some 9), (.iadA 8 1 (.t 5) (.c (.int 0))), none, 2⟩, ⟨(some 10), (.load none (.t 9)), none, 2⟩, ⟨(some 11), (.conv .u32u64 (.t 10)), none, 2⟩, ⟨(some 12), (.iadA 8 1 (.t 5) (.c (.int 1))), none, 2⟩, ⟨(some 13), (.load none (.t 12)), none, 2⟩, ⟨(some 14), (.conv .u32u64 (.t 13)), none, 2⟩, ⟨(some 15), (.bin .shl (.t 14) (.c (.u64 32))), none, 2⟩, ⟨(some 16), (.bin .or (.t 11) (.t 15)), none, 2⟩, ⟨(some 17), (.conv .u64i (.t 16)), none, 2⟩, ⟨(some 4), (.mov (.t 17)), none, 2⟩] [])
 .ret)))
theorem o60 : FnOK Try.prog 60 N60 res60 c60 := ⟨_, _, Try.f60.results.toList, [], pures, Try.func60, show _ = some (Try.f60.body.getD .skip) by kernel_rfl, (Array.toArray_toList).symm, by kernel_rfl, by kernel_rfl, by kernel_rfl, by kernel_rfl, follows, callFunc_enter Try.func60 (by kernel_rfl) (by kernel_rfl)⟩
-- (*sentinel/wire.reader).long
def N61 : Nat := 7
def keep61 : List Nat := [0, 2]
def res61 : List RV := [(.t 2)]
def c61 : CC :=
 (.seq (.reg [⟨(some 2), (.mov (.c (.sl true 0 0 (.agg []) true))), none, 2⟩] [])
 (.seq (.reg [⟨(some 3), (.mov (.t 0)), none, 2⟩, ⟨(some 4), (.mov (.t 0)), none, 2⟩, ⟨(some 5), (.call (.c (.fn 60 [])) [(.t 4), (.c (.int 1))]), none, 2⟩, ⟨(some 6), (.call (.c (.fn 75 [])) [(.t 3), (.t 5)]), none, 2⟩, ⟨(some 2), (.mov (.t 6)), none, 2⟩] [])
 .ret))
theorem o61 : FnOK Try.prog 61 N61 res61 c61 := ⟨_, _, Try.f61.results.toList, [], pures, Try.func61, show _ = some (Try.f61.body.getD .skip) by kernel_rfl, (Array.toArray_toList).symm, by kernel_rfl, by kernel_rfl, by kernel_rfl, by kernel_rfl, follows, callFunc_enter Try.func61 (by kernel_rfl) (by kernel_rfl)⟩
-- (*sentinel/wire.reader).num
def N62 : Nat := 15
def keep62 : List Nat := [0, 1, 4, 5]
def res62 : List RV := [(.c 4 (some 8))]
def c62 : CC :=
 (.seq (.reg [⟨(some 4), (.alloc (.agg [(.u32 0), (.u32 0), (.u32 0), (.u32 0), (.u32 0), (.u32 0), (.u32 0), (.u32 0)])), none, 2⟩] [])
 (.seq (.reg [⟨(some 8), (.mov (.t 0)), none, 2⟩, ⟨(some 9), (.mov (.t 1)), none, 2⟩, ⟨(some 10), (.call (.c (.fn 75 [])) [(.t 8), (.t 9)]), none, 2⟩, ⟨(some 11), (.call (.c (.fn 52 [])) [(.t 10)]), none, 2⟩, ⟨(some 7), (.mov (.t 11)), none, 2⟩, ⟨(some 12), (.ext (.t 7) 0), none, 2⟩, ⟨(some 13), (.ext (.t 7) 1), none, 2⟩, ⟨(some 5), (.alloc (.agg [(.u32 0), (.u32 0), (.u32 0), (.u32 0), (.u32 0), (.u32 0), (.u32 0), (.u32 0)])), none, 2⟩, ⟨none, (.store (some 8) (.t 5) (.t 12)), none, 2⟩, ⟨(some 6), (.mov (.t 13)), none, 2⟩] [])
 (.seq (.reg [⟨(some 14), (.load (some 8) (.t 5)), none, 2⟩, ⟨none, (.store (some 8) (.t 4) (.t 14)), none, 2⟩] [])
 .ret)))
theorem o62 : FnOK Try.prog 62 N62 res62 c62 := ⟨_, _, Try.f62.results.toList, [], pures, Try.func62, show _ = some (Try.f62.body.getD .skip) by kernel_rfl, (Array.toArray_toList).symm, by kernel_rfl, by kernel_rfl, by kernel_rfl, by kernel_rfl, follows, callFunc_enter Try.func62 (by kernel_rfl) (by kernel_rfl)⟩
-- slices.insertionSortOrdered[string]
def N63 : Nat := 49
def keep63 : List Nat := [0, 1, 2, 6, 7, 12, 30]
def res63 : List RV := []
def c63 : CC :=
 (.seq (.reg [⟨(some 8), (.mov (.t 1)), none, 2⟩, ⟨(some 9), (.bin .add (.t 8) (.c (.int 1))), none, 2⟩, ⟨(some 6), (.mov (.t 9)), none, 2⟩] [])
 (.block 0 (.loop (.seq (.seq (.reg [⟨(some 10), (.mov (.t 6)), none, 2⟩, ⟨(some 11), (.mov (.t 2)), none, 2⟩, ⟨(some 12), (.bin .lss (.t 10) (.t 11)), none, 2⟩] [])
 (.cond (.t 12)
 .skip
 (.exit 0)))
 (.seq (.block 1 (.seq (.reg [⟨(some 15), (.mov (.t 6)), none, 2⟩, ⟨(some 7), (.mov (.t 15)), none, 2⟩] [])
 (.block 2 (.loop (.seq (.seq (.reg [⟨(some 16), (.mov (.t 7)), none, 0⟩, ⟨(some 17), (.mov (.t 1)), none, 0⟩, ⟨(some 18), (.bin .gtr (.t 16) (.t 17)), none, 0⟩, ⟨(some 19), (.mov (.t 18)), none, 0⟩, ⟨(some 20), (.mov (.t 0)), (some (19, true)), 0⟩, ⟨(some 21), (.mov (.t 7)), (some (19, true)), 0⟩, ⟨(some 22), (.iadS 1 (.t 20) (.t 21)), (some (19, true)), 1⟩, ⟨(some 23), (.load none (.t 22)), (some (19, true)), 1⟩, ⟨(some 24), (.mov (.t 0)), (some (19, true)), 0⟩, ⟨(some 25), (.mov (.t 7)), (some (19, true)), 0⟩, ⟨(some 26), (.bin .sub (.t 25) (.c (.int 1))), (some (19, true)), 0⟩, ⟨(some 27), (.iadS 1 (.t 24) (.t 26)), (some (19, true)), 1⟩, ⟨(some 28), (.load none (.t 27)), (some (19, true)), 1⟩, ⟨(some 29), (.call (.c (.fn 69 [])) [(.t 23), (.t 28)]), (some (19, true)), 0⟩, ⟨(some 30), (.pick (.t 19) (.t 29) (.c (.bool false))), none, 0⟩] [])
 (.cond (.t 30)
 .skip
 (.exit 2)))
 (.seq (.block 3 (.reg [⟨(some 33), (.mov (.t 0)), none, 0⟩, ⟨(some 34), (.mov (.t 7)), none, 0⟩, ⟨(some 35), (.mov (.t 0)), none, 0⟩, ⟨(some 36), (.mov (.t 7)), none, 0⟩, ⟨(some 37), (.bin .sub (.t 36) (.c (.int 1))), none, 0⟩, ⟨(some 38), (.mov (.t 0)), none, 0⟩, ⟨(some 39), (.mov (.t 7)), none, 0⟩, ⟨(some 40), (.bin .sub (.t 39) (.c (.int 1))), none, 0⟩, ⟨(some 41), (.iadS 1 (.t 38) (.t 40)), none, 1⟩, ⟨(some 42), (.load none (.t 41)), none, 1⟩, ⟨(some 43), (.mov (.t 0)), none, 0⟩, ⟨(some 44), (.mov (.t 7)), none, 0⟩, ⟨(some 45), (.iadS 1 (.t 43) (.t 44)), none, 1⟩, ⟨(some 46), (.load none (.t 45)), none, 1⟩, ⟨(some 47), (.iadS 1 (.t 33) (.t 34)), none, 1⟩, ⟨none, (.store none (.t 47) (.t 42)), none, 2⟩, ⟨(some 48), (.iadS 1 (.t 35) (.t 37)), none, 1⟩, ⟨none, (.store none (.t 48) (.t 46)), none, 2⟩] []))
 (.reg [⟨(some 31), (.mov (.t 7)), none, 2⟩, ⟨(some 32), (.bin .sub (.t 31) (.c (.int 1))), none, 2⟩, ⟨(some 7), (.mov (.t 32)), none, 2⟩] [])))))))
 (.reg [⟨(some 13), (.mov (.t 6)), none, 2⟩, ⟨(some 14), (.bin .add (.t 13) (.c (.int 1))), none, 2⟩, ⟨(some 6), (.mov (.t 14)), none, 2⟩] []))))))
theorem o63 : FnOK Try.prog 63 N63 res63 c63 := ⟨_, _, Try.f63.results.toList, [], pures, Try.func63, show _ = some (Try.f63.body.getD .skip) by kernel_rfl, (Array.toArray_toList).symm, by kernel_rfl, by kernel_rfl, by kernel_rfl, by kernel_rfl, follows, callFunc_enter Try.func63 (by kernel_rfl) (by kernel_rfl)⟩
-- cmp.Less[string]
def N69 : Nat := 17
def keep69 : List Nat := [0, 1, 4]
def res69 : List RV := [(.t 4)]
def c69 : CC :=
 (.seq (.reg [⟨(some 4), (.mov (.c (.bool false))), none, 2⟩] [])
 (.seq (.reg [⟨(some 5), (.mov (.t 0)), none, 2⟩, ⟨(some 6), (.call (.c (.fn 81 [])) [(.t 5)]), none, 2⟩, ⟨(some 7), (.mov (.t 6)), none, 2⟩, ⟨(some 8), (.mov (.t 1)), (some (7, true)), 2⟩, ⟨(some 9), (.call (.c (.fn 81 [])) [(.t 8)]), (some (7, true)), 2⟩, ⟨(some 10), (.un .not (.t 9)), (some (7, true)), 2⟩, ⟨(some 11), (.pick (.t 7) (.t 10) (.c (.bool false))), none, 2⟩, ⟨(some 12), (.mov (.t 11)), none, 2⟩, ⟨(some 13), (.mov (.t 0)), (some (12, false)), 2⟩, ⟨(some 14), (.mov (.t 1)), (some (12, false)), 2⟩, ⟨(some 15), (.bin .lss (.t 13) (.t 14)), (some (12, false)), 2⟩, ⟨(some 16), (.pick (.t 12) (.c (.bool true)) (.t 15)), none, 2⟩, ⟨(some 4), (.mov (.t 16)), none, 2⟩] [])
 .ret))
theorem o69 : FnOK Try.prog 69 N69 res69 c69 := ⟨_, _, Try.f69.results.toList, [], pures, Try.func69, show _ = some (Try.f69.body.getD .skip) by kernel_rfl, (Array.toArray_toList).symm, by kernel_rfl, by kernel_rfl, by kernel_rfl, by kernel_rfl, follows, callFunc_enter Try.func69 (by kernel_rfl) (by kernel_rfl)⟩
-- math/bits.Len64
def N72 : Nat := 25
def keep72 : List Nat := [0, 2, 4, 8, 14]
def res72 : List RV := [(.t 2)]
def c72 : CC :=
 (.seq (.reg [⟨(some 2), (.mov (.c (.int 0))), none, 2⟩] [])
 (.seq (.seq (.reg [⟨(some 3), (.mov (.t 0)), none, 2⟩, ⟨(some 4), (.bin .geq (.t 3) (.c (.u64 4294967296))), none, 2⟩] [])
 (.cond (.t 4)
 (.seq (.reg [⟨(some 5), (.mov (.t 0)), none, 2⟩, ⟨(some 6), (.bin .shr (.t 5) (.c (.u64 32))), none, 2⟩, ⟨(some 0), (.mov (.t 6)), none, 2⟩] [])
 (.reg [⟨(some 2), (.mov (.c (.int 32))), none, 2⟩] []))
 .skip))
 (.seq (.seq (.reg [⟨(some 7), (.mov (.t 0)), none, 2⟩, ⟨(some 8), (.bin .geq (.t 7) (.c (.u64 65536))), none, 2⟩] [])
 (.cond (.t 8)
 (.seq (.reg [⟨(some 9), (.mov (.t 0)), none, 2⟩, ⟨(some 10), (.bin .shr (.t 9) (.c (.u64 16))), none, 2⟩, ⟨(some 0), (.mov (.t 10)), none, 2⟩] [])
 (.reg [⟨(some 11), (.mov (.t 2)), none, 2⟩, ⟨(some 12), (.bin .add (.t 11) (.c (.int 16))), none, 2⟩, ⟨(some 2), (.mov (.t 12)), none, 2⟩] []))
 .skip))
 (.seq (.seq (.reg [⟨(some 13), (.mov (.t 0)), none, 2⟩, ⟨(some 14), (.bin .geq (.t 13) (.c (.u64 256))), none, 2⟩] [])
 (.cond (.t 14)
 (.seq (.reg [⟨(some 15), (.mov (.t 0)), none, 2⟩, ⟨(some 16), (.bin .shr (.t 15) (.c (.u64 8))), none, 2⟩, ⟨(some 0), (.mov (.t 16)), none, 2⟩] [])
 (.reg [⟨(some 17), (.mov (.t 2)), none, 2⟩, ⟨(some 18), (.bin .add (.t 17) (.c (.int 8))), none, 2⟩, ⟨(some 2), (.mov (.t 18)), none, 2⟩] []))
 .skip))
 (.seq (.reg [⟨(some 19), (.mov (.t 2)), none, 2⟩, ⟨(some 20), (.mov (.t 0)), none, 2⟩, ⟨(some 21), (.conv .u64u8 (.t 20)), none, 2⟩, ⟨(some 22), (.idx (.c (.str [0, 1, 2, 2, 3, 3, 3, 3, 4, 4, 4, 4, 4, 4, 4, 4, 5, 5, 5, 5, 5, 5, 5, 5, 5, 5, 5, 5, 5, 5, 5, 5, 6, 6, 6, 6, 6, 6, 6, 6, 6, 6, 6, 6, 6, 6, 6, 6, 6, 6, 6, 6, 6, 6, 6, 6, 6, 6, 6, 6, 6, 6, 6, 6, 7, 7, 7, 7, 7, 7, 7, 7, 7, 7, 7, 7, 7, 7, 7, 7, 7, 7, 7, 7, 7, 7, 7, 7, 7, 7, 7, 7, 7, 7, 7, 7, 7, 7, 7, 7, 7, 7, 7, 7, 7, 7, 7, 7, 7, 7, 7, 7, 7, 7, 7, 7, 7, 7, 7, 7, 7, 7, 7, 7, 7, 7, 7, 7, 8, 8, 8, 8, 8, 8, 8, 8, 8, 8, 8, 8, 8, 8, 8, 8, 8, 8, 8, 8, 8, 8, 8, 8, 8, 8, 8, 8, 8, 8, 8, 8, 8, 8, 8, 8, 8, 8, 8, 8, 8, 8, 8, 8, 8, 8, 8, 8, 8, 8, 8, 8, 8, 8, 8, 8, 8, 8, 8, 8, 8, 8, 8, 8, 8, 8, 8, 8, 8, 8, 8, 8, 8, 8, 8, 8, 8, 8, 8, 8, 8, 8, 8, 8, 8, 8, 8, 8, 8, 8, 8, 8, 8, 8, 8, 8, 8, 8, 8, 8, 8, 8, 8, 8, 8, 8, 8, 8, 8, 8, 8, 8, 8, 8, 8, 8, 8, 8, 8, 8, 8, 8, 8, 8, 8, 8, 8, 8])) (.t 21)), none, 2⟩, ⟨(some 23), (.conv .u8i (.t 22)), none, 2⟩, ⟨(some 24), (.bin .add (.t 19) (.t 23)), none, 2⟩, ⟨(some 2), (.mov (.t 24)), none, 2⟩] [])
 .ret)))))
theorem o72 : FnOK Try.prog 72 N72 res72 c72 := ⟨_, _, Try.f72.results.toList, [], pures, Try.func72, show _ = some (Try.f72.body.getD .skip) by kernel_rfl, (Array.toArray_toList).symm, by kernel_rfl, by kernel_rfl, by kernel_rfl, by kernel_rfl, follows, callFunc_enter Try.func72 (by kernel_rfl) (by kernel_rfl)⟩
-- sentinel/sponge.New
def N73 : Nat := 17
def keep73 : List Nat := [0, 2, 3]
def res73 : List RV := [(.t 2)]
def c73 : CC :=
 (.seq (.reg [⟨(some 2), (.mov (.c .nilp)), none, 2⟩] [])
 (.seq (.reg [⟨(some 4), (.build [(.u32 0), (.u32 0), (.u32 0), (.u32 0), (.u32 0), (.u32 0), (.u32 0), (.u32 0), (.sl true 0 0 (.agg []) true)] []), none, 2⟩, ⟨(some 5), (.box (.t 4)), none, 2⟩, ⟨(some 3), (.mov (.t 5)), none, 2⟩] [])
 (.seq (.reg [⟨(some 6), (.mov (.t 3)), none, 2⟩, ⟨(some 7), (.mov (.t 0)), none, 2⟩, ⟨(some 8), (.len false (.t 7)), none, 2⟩, ⟨(some 9), (.call (.c (.fn 83 [])) [(.t 8)]), none, 2⟩, ⟨(some 10), (.call (.c (.fn 82 [])) [(.t 6), (.t 9)]), none, 2⟩] [])
 (.seq (.reg [⟨(some 11), (.mov (.t 3)), none, 2⟩, ⟨(some 12), (.mov (.t 0)), none, 2⟩, ⟨(some 13), (.call (.c (.fn 82 [])) [(.t 11), (.t 12)]), none, 2⟩] [])
 (.seq (.reg [⟨(some 14), (.mov (.t 3)), none, 2⟩, ⟨(some 15), (.call (.c (.fn 84 [])) [(.t 14)]), none, 2⟩] [])
 (.seq (.reg [⟨(some 16), (.mov (.t 3)), none, 2⟩, ⟨(some 2), (.mov (.t 16)), none, 2⟩] [])
 .ret))))))
theorem o73 : FnOK Try.prog 73 N73 res73 c73 := ⟨_, _, Try.f73.results.toList, [], pures, Try.func73, show _ = some (Try.f73.body.getD .skip) by kernel_rfl, (Array.toArray_toList).symm, by kernel_rfl, by kernel_rfl, by kernel_rfl, by kernel_rfl, follows, callFunc_enter Try.func73 (by kernel_rfl) (by kernel_rfl)⟩
-- (*sentinel/sponge.Sponge).put
def N74 : Nat := 24
def keep74 : List Nat := [0, 1, 4, 6, 7, 8, 9, 10]
def res74 : List RV := [(.c 4 (some 16))]
def c74 : CC :=
 (.seq (.reg [⟨(some 4), (.alloc (.agg [(.u8 0), (.u8 0), (.u8 0), (.u8 0), (.u8 0), (.u8 0), (.u8 0), (.u8 0), (.u8 0), (.u8 0), (.u8 0), (.u8 0), (.u8 0), (.u8 0), (.u8 0), (.u8 0)])), none, 2⟩] [])
 (.seq (.seq (.reg [⟨(some 7), (.mov (.t 1)), none, 2⟩, ⟨(some 8), (.len false (.t 7)), none, 2⟩, ⟨(some 9), (.mov (.c (.int 0))), none, 2⟩] [])
 (.block 0 (.loop (.seq (.reg [⟨(some 10), (.bin .lss (.t 9) (.t 8)), none, 2⟩] [])
 (.seq (.cond (.t 10)
 .skip
 (.exit 0))
 (.seq (.block 1 (.seq (.reg [⟨(some 11), (.iadS 1 (.t 7) (.t 9)), none, 2⟩, ⟨(some 12), (.load none (.t 11)), none, 2⟩, ⟨(some 6), (.mov (.t 12)), none, 2⟩] [])
 (.seq (.reg [⟨(some 13), (.mov (.t 0)), none, 2⟩, ⟨(some 14), (.mov (.t 6)), none, 2⟩, ⟨(some 15), (.len false (.t 14)), none, 2⟩, ⟨(some 16), (.call (.c (.fn 83 [])) [(.t 15)]), none, 2⟩, ⟨(some 17), (.call (.c (.fn 82 [])) [(.t 13), (.t 16)]), none, 2⟩] [])
 (.reg [⟨(some 18), (.mov (.t 0)), none, 2⟩, ⟨(some 19), (.mov (.t 6)), none, 2⟩, ⟨(some 20), (.call (.c (.fn 82 [])) [(.t 18), (.t 19)]), none, 2⟩] []))))
 (.reg [⟨(some 21), (.bin .add (.t 9) (.c (.int 1))), none, 2⟩, ⟨(some 9), (.mov (.t 21)), none, 2⟩] [])))))))
 (.seq (.reg [⟨(some 22), (.mov (.t 0)), none, 2⟩, ⟨(some 23), (.call (.c (.fn 85 [])) [(.t 22)]), none, 2⟩, ⟨none, (.store (some 16) (.t 4) (.t 23)), none, 2⟩] [])
 .ret)))
theorem o74 : FnOK Try.prog 74 N74 res74 c74 := ⟨_, _, Try.f74.results.toList, [], pures, Try.func74, show _ = some (Try.f74.body.getD .skip) by kernel_rfl, (Array.toArray_toList).symm, by kernel_rfl, by kernel_rfl, by kernel_rfl, by kernel_rfl, follows, callFunc_enter Try.func74 (by kernel_rfl) (by kernel_rfl)⟩
-- (*sentinel/wire.reader).take
def N75 : Nat := 40
def keep75 : List Nat := [0, 1, 4, 5, 16]
def res75 : List RV := [(.t 4)]
def c75 : CC :=
 (.seq (.reg [⟨(some 4), (.mov (.c (.sl true 0 0 (.agg []) true))), none, 2⟩] [])
 (.seq (.seq (.reg [⟨(some 6), (.mov (.t 1)), none, 2⟩, ⟨(some 7), (.bin .lss (.t 6) (.c (.int 0))), none, 2⟩, ⟨(some 8), (.mov (.t 7)), none, 2⟩, ⟨(some 9), (.mov (.t 1)), (some (8, false)), 2⟩, ⟨(some 10), (.mov (.t 0)), (some (8, false)), 2⟩, ⟨(some 11), (.nilck (.t 10)), (some (8, false)), 2⟩, ⟨(some 12), (.fad 0 (.t 11)), (some (8, false)), 2⟩, ⟨(some 13), (.load none (.t 12)), (some (8, false)), 2⟩, ⟨(some 14), (.len false (.t 13)), (some (8, false)), 2⟩, ⟨(some 15), (.bin .gtr (.t 9) (.t 14)), (some (8, false)), 2⟩, ⟨(some 16), (.pick (.t 8) (.c (.bool true)) (.t 15)), none, 2⟩] [])
 (.cond (.t 16)
 (.seq (.reg [⟨(some 17), (.mov (.t 0)), none, 2⟩, ⟨(some 18), (.mov (.t 0)), none, 2⟩, ⟨(some 19), (.nilck (.t 17)), none, 2⟩, ⟨(some 20), (.fad 0 (.t 19)), none, 2⟩, ⟨none, (.store none (.t 20) (.c (.sl true 0 0 (.agg []) true))), none, 2⟩, ⟨(some 21), (.nilck (.t 18)), none, 2⟩, ⟨(some 22), (.fad 1 (.t 21)), none, 2⟩, ⟨none, (.store none (.t 22) (.c (.bool true))), none, 2⟩] [])
 (.seq (.reg [⟨(some 4), (.mov (.c (.sl true 0 0 (.agg []) true))), none, 2⟩] [])
 .ret))
 .skip))
 (.seq (.reg [⟨(some 23), (.mov (.t 0)), none, 2⟩, ⟨(some 24), (.nilck (.t 23)), none, 2⟩, ⟨(some 25), (.fad 0 (.t 24)), none, 2⟩, ⟨(some 26), (.load none (.t 25)), none, 2⟩, ⟨(some 27), (.mov (.t 1)), none, 2⟩, ⟨(some 28), (.slcS 1 (.t 26) none (some (.t 27)) none), none, 2⟩, ⟨(some 5), (.mov (.t 28)), none, 2⟩] [])
 (.seq (.reg [⟨(some 29), (.mov (.t 0)), none, 2⟩, ⟨(some 30), (.mov (.t 0)), none, 2⟩, ⟨(some 31), (.nilck (.t 30)), none, 2⟩, ⟨(some 32), (.fad 0 (.t 31)), none, 2⟩, ⟨(some 33), (.load none (.t 32)), none, 2⟩, ⟨(some 34), (.mov (.t 1)), none, 2⟩, ⟨(some 35), (.slcS 1 (.t 33) (some (.t 34)) none none), none, 2⟩, ⟨(some 36), (.nilck (.t 29)), none, 2⟩, ⟨(some 37), (.fad 0 (.t 36)), none, 2⟩, ⟨none, (.store none (.t 37) (.t 35)), none, 2⟩] [])
 (.seq (.reg [⟨(some 38), (.mov (.t 5)), none, 2⟩, ⟨(some 39), (.call (.c (.fn 33 [])) [(.t 38)]), none, 2⟩, ⟨(some 4), (.mov (.t 39)), none, 2⟩] [])
 .ret)))))
theorem o75 : FnOK Try.prog 75 N75 res75 c75 := ⟨_, _, Try.f75.results.toList, [], pures, Try.func75, show _ = some (Try.f75.body.getD .skip) by kernel_rfl, (Array.toArray_toList).symm, by kernel_rfl, by kernel_rfl, by kernel_rfl, by kernel_rfl, follows, callFunc_enter Try.func75 (by kernel_rfl) (by kernel_rfl)⟩
-- cmp.isNaN[string]
def N81 : Nat := 6
def keep81 : List Nat := [0, 2]
def res81 : List RV := [(.t 2)]
def c81 : CC :=
 (.seq (.reg [⟨(some 2), (.mov (.c (.bool false))), none, 2⟩] [])
 (.seq (.reg [⟨(some 3), (.mov (.t 0)), none, 2⟩, ⟨(some 4), (.mov (.t 0)), none, 2⟩, ⟨(some 5), (.eq true .sc (.t 3) (.t 4)), none, 2⟩, ⟨(some 2), (.mov (.t 5)), none, 2⟩] [])
 .ret))
theorem o81 : FnOK Try.prog 81 N81 res81 c81 := ⟨_, _, Try.f81.results.toList, [], pures, Try.func81, show _ = some (Try.f81.body.getD .skip) by kernel_rfl, (Array.toArray_toList).symm, by kernel_rfl, by kernel_rfl, by kernel_rfl, by kernel_rfl, follows, callFunc_enter Try.func81 (by kernel_rfl) (by kernel_rfl)⟩
-- (*sentinel/sponge.Sponge).Write
def N82 : Nat := 38
def keep82 : List Nat := [0, 1, 4, 22]
def res82 : List RV := []
def c82 : CC :=
 (.seq (.reg [⟨(some 5), (.mov (.t 0)), none, 2⟩, ⟨(some 6), (.mov (.t 0)), none, 2⟩, ⟨(some 7), (.nilck (.t 6)), none, 2⟩, ⟨(some 8), (.fad 8 (.t 7)), none, 2⟩, ⟨(some 9), (.load none (.t 8)), none, 2⟩, ⟨(some 10), (.call (.c (.fn 33 [])) [(.t 9)]), none, 2⟩, ⟨(some 11), (.mov (.t 1)), none, 2⟩, ⟨(some 12), (.app true 1 1 (.t 10) (.t 11)), none, 2⟩, ⟨(some 13), (.nilck (.t 5)), none, 2⟩, ⟨(some 14), (.fad 8 (.t 13)), none, 2⟩, ⟨none, (.store none (.t 14) (.t 12)), none, 2⟩] [])
 (.seq (.reg [⟨(some 15), (.mov (.t 0)), none, 2⟩, ⟨(some 16), (.mkb 87 [(.t 15)]), none, 2⟩, ⟨(some 4), (.mov (.t 16)), none, 2⟩] [])
 (.block 0 (.loop (.seq (.seq (.reg [⟨(some 17), (.mov (.t 0)), none, 2⟩, ⟨(some 18), (.nilck (.t 17)), none, 2⟩, ⟨(some 19), (.fad 8 (.t 18)), none, 2⟩, ⟨(some 20), (.load none (.t 19)), none, 2⟩, ⟨(some 21), (.len false (.t 20)), none, 2⟩, ⟨(some 22), (.bin .geq (.t 21) (.c (.int 16))), none, 2⟩] [])
 (.cond (.t 22)
 .skip
 (.exit 0)))
 (.block 1 (.seq (.reg [⟨(some 23), (.mov (.t 4)), none, 2⟩, ⟨(some 24), (.mov (.t 0)), none, 2⟩, ⟨(some 25), (.nilck (.t 24)), none, 2⟩, ⟨(some 26), (.fad 8 (.t 25)), none, 2⟩, ⟨(some 27), (.load none (.t 26)), none, 2⟩, ⟨(some 28), (.slcS 1 (.t 27) none (some (.c (.int 16))) none), none, 2⟩, ⟨(some 29), (.call (.t 23) [(.t 28)]), none, 2⟩] [])
 (.reg [⟨(some 30), (.mov (.t 0)), none, 2⟩, ⟨(some 31), (.mov (.t 0)), none, 2⟩, ⟨(some 32), (.nilck (.t 31)), none, 2⟩, ⟨(some 33), (.fad 8 (.t 32)), none, 2⟩, ⟨(some 34), (.load none (.t 33)), none, 2⟩, ⟨(some 35), (.slcS 1 (.t 34) (some (.c (.int 16))) none none), none, 2⟩, ⟨(some 36), (.nilck (.t 30)), none, 2⟩, ⟨(some 37), (.fad 8 (.t 36)), none, 2⟩, ⟨none, (.store none (.t 37) (.t 35)), none, 2⟩] []))))))))
theorem o82 : FnOK Try.prog 82 N82 res82 c82 := ⟨_, _, Try.f82.results.toList, [], pures, Try.func82, show _ = some (Try.f82.body.getD .skip) by kernel_rfl, (Array.toArray_toList).symm, by kernel_rfl, by kernel_rfl, by kernel_rfl, by kernel_rfl, follows, callFunc_enter Try.func82 (by kernel_rfl) (by kernel_rfl)⟩
-- sentinel/sponge.number
def N83 : Nat := 22
def keep83 : List Nat := [0, 2, 3, 4, 7, 8, 9]
def res83 : List RV := [(.t 2)]
def c83 : CC :=
 (.seq (.reg [⟨(some 2), (.mov (.c (.sl true 0 0 (.agg []) true))), none, 2⟩] [])
 (.seq (.reg [⟨(some 5), (.mksl .u8 1 1 [(.u8 0)] (.c (.int 8)) (.c (.int 8))), none, 2⟩, ⟨(some 3), (.mov (.t 5)), none, 2⟩] [])
 (.seq (.seq (.reg [⟨(some 6), (.mov (.t 3)), none, 2⟩, ⟨(some 7), (.len false (.t 6)), none, 2⟩, ⟨(some 8), (.mov (.c (.int 0))), none, 2⟩] [])
 (.block 0 (.loop (.seq (.reg [⟨(some 9), (.bin .lss (.t 8) (.t 7)), none, 2⟩] [])
 (.seq (.cond (.t 9)
 .skip
 (.exit 0))
 (.seq (.block 1 (.seq (.reg [⟨(some 10), (.mov (.t 8)), none, 2⟩, ⟨(some 4), (.mov (.t 10)), none, 2⟩] [])
 (.reg [⟨(some 11), (.mov (.t 3)), none, 2⟩, ⟨(some 12), (.mov (.t 4)), none, 2⟩, ⟨(some 13), (.mov (.t 0)), none, 2⟩, ⟨(some 14), (.mov (.t 4)), none, 2⟩, ⟨(some 15), (.bin .mul (.c (.int 8)) (.t 14)), none, 2⟩, ⟨(some 16), (.bin .sub (.c (.int 56)) (.t 15)), none, 2⟩, ⟨(some 17), (.bin .shr (.t 13) (.t 16)), none, 2⟩, ⟨(some 18), (.conv .iu8 (.t 17)), none, 2⟩, ⟨(some 19), (.iadS 1 (.t 11) (.t 12)), none, 2⟩, ⟨none, (.store none (.t 19) (.t 18)), none, 2⟩] [])))
 (.reg [⟨(some 20), (.bin .add (.t 8) (.c (.int 1))), none, 2⟩, ⟨(some 8), (.mov (.t 20)), none, 2⟩] [])))))))
 (.seq (.reg [⟨(some 21), (.mov (.t 3)), none, 2⟩, ⟨(some 2), (.mov (.t 21)), none, 2⟩] [])
 .ret))))
theorem o83 : FnOK Try.prog 83 N83 res83 c83 := ⟨_, _, Try.f83.results.toList, [], pures, Try.func83, show _ = some (Try.f83.body.getD .skip) by kernel_rfl, (Array.toArray_toList).symm, by kernel_rfl, by kernel_rfl, by kernel_rfl, by kernel_rfl, follows, callFunc_enter Try.func83 (by kernel_rfl) (by kernel_rfl)⟩
-- (*sentinel/sponge.Sponge).fill
def N84 : Nat := 17
def keep84 : List Nat := [0, 7]
def res84 : List RV := []
def c84 : CC :=
 (.seq (.reg [⟨(some 2), (.mov (.t 0)), none, 2⟩, ⟨(some 3), (.nilck (.t 2)), none, 2⟩, ⟨(some 4), (.fad 8 (.t 3)), none, 2⟩, ⟨(some 5), (.load none (.t 4)), none, 2⟩, ⟨(some 6), (.len false (.t 5)), none, 2⟩, ⟨(some 7), (.bin .gtr (.t 6) (.c (.int 0))), none, 2⟩] [])
 (.cond (.t 7)
 (.reg [⟨(some 8), (.mov (.t 0)), none, 2⟩, ⟨(some 9), (.mov (.t 0)), none, 2⟩, ⟨(some 10), (.nilck (.t 9)), none, 2⟩, ⟨(some 11), (.fad 8 (.t 10)), none, 2⟩, ⟨(some 12), (.load none (.t 11)), none, 2⟩, ⟨(some 13), (.len false (.t 12)), none, 2⟩, ⟨(some 14), (.bin .sub (.c (.int 16)) (.t 13)), none, 2⟩, ⟨(some 15), (.mksl .u8 1 1 [(.u8 0)] (.t 14) (.t 14)), none, 2⟩, ⟨(some 16), (.call (.c (.fn 82 [])) [(.t 8), (.t 15)]), none, 2⟩] [])
 .skip))
theorem o84 : FnOK Try.prog 84 N84 res84 c84 := ⟨_, _, Try.f84.results.toList, [], pures, Try.func84, show _ = some (Try.f84.body.getD .skip) by kernel_rfl, (Array.toArray_toList).symm, by kernel_rfl, by kernel_rfl, by kernel_rfl, by kernel_rfl, follows, callFunc_enter Try.func84 (by kernel_rfl) (by kernel_rfl)⟩
-- (*sentinel/sponge.Sponge).Sum
def N85 : Nat := 57
def keep85 : List Nat := [0, 2, 3, 4, 5, 38, 39]
def res85 : List RV := [(.c 2 (some 16))]
def c85 : CC :=
 (.seq (.reg [⟨(some 2), (.alloc (.agg [(.u8 0), (.u8 0), (.u8 0), (.u8 0), (.u8 0), (.u8 0), (.u8 0), (.u8 0), (.u8 0), (.u8 0), (.u8 0), (.u8 0), (.u8 0), (.u8 0), (.u8 0), (.u8 0)])), none, 2⟩] [])
 (.seq (.reg [⟨(some 6), (.mov (.t 0)), none, 0⟩, ⟨(some 7), (.nilck (.t 6)), none, 0⟩, ⟨(some 8), (.fad 0 (.t 7)), none, 0⟩, ⟨(some 9), (.load (some 8) (.t 8)), none, 1⟩, ⟨(some 10), (.mov (.t 0)), none, 0⟩, ⟨(some 11), (.nilck (.t 10)), none, 0⟩, ⟨(some 12), (.fad 8 (.t 11)), none, 0⟩, ⟨(some 13), (.load none (.t 12)), none, 1⟩, ⟨(some 14), (.build [(.u32 0), (.u32 0), (.u32 0), (.u32 0), (.u32 0), (.u32 0), (.u32 0), (.u32 0), (.sl true 0 0 (.agg []) true)] [(0, (8, (.t 9))), (8, (1, (.t 13)))]), none, 0⟩, ⟨(some 15), (.box (.t 14)), none, 2⟩, ⟨(some 3), (.mov (.t 15)), none, 0⟩] [])
 (.seq (.reg [⟨(some 16), (.mov (.t 3)), none, 2⟩, ⟨(some 17), (.bsl false .u8 1 1 [(.u8 0)] [(0, (1, (.c (.u8 128))))]), none, 2⟩, ⟨(some 18), (.call (.c (.fn 82 [])) [(.t 16), (.t 17)]), none, 2⟩] [])
 (.seq (.reg [⟨(some 19), (.mov (.t 3)), none, 2⟩, ⟨(some 20), (.call (.c (.fn 84 [])) [(.t 19)]), none, 2⟩] [])
 (.seq (.reg [⟨(some 21), (.mov (.t 3)), none, 0⟩, ⟨(some 22), (.nilck (.t 21)), none, 0⟩, ⟨(some 23), (.fad 0 (.t 22)), none, 0⟩, ⟨(some 24), (.iadA 8 1 (.t 23) (.c (.int 7))), none, 0⟩, ⟨(some 25), (.load none (.t 24)), none, 1⟩, ⟨(some 26), (.bin .xor (.t 25) (.c (.u32 1))), none, 0⟩, ⟨(some 27), (.nilck (.t 21)), none, 0⟩, ⟨(some 28), (.fad 0 (.t 27)), none, 0⟩, ⟨(some 29), (.iadA 8 1 (.t 28) (.c (.int 7))), none, 0⟩, ⟨none, (.store none (.t 29) (.t 26)), none, 2⟩] [])
 (.seq (.reg [⟨(some 30), (.mov (.t 3)), none, 2⟩, ⟨(some 31), (.mov (.t 3)), none, 2⟩, ⟨(some 32), (.nilck (.t 31)), none, 2⟩, ⟨(some 33), (.fad 0 (.t 32)), none, 2⟩, ⟨(some 34), (.load (some 8) (.t 33)), none, 2⟩, ⟨(some 35), (.call (.c (.fn 88 [])) [(.t 34)]), none, 2⟩, ⟨(some 36), (.nilck (.t 30)), none, 2⟩, ⟨(some 37), (.fad 0 (.t 36)), none, 2⟩, ⟨none, (.store (some 8) (.t 37) (.t 35)), none, 2⟩] [])
 (.seq (.reg [⟨(some 4), (.alloc (.agg [(.u8 0), (.u8 0), (.u8 0), (.u8 0), (.u8 0), (.u8 0), (.u8 0), (.u8 0), (.u8 0), (.u8 0), (.u8 0), (.u8 0), (.u8 0), (.u8 0), (.u8 0), (.u8 0)])), none, 2⟩] [])
 (.seq (.seq (.reg [⟨(some 38), (.mov (.c (.int 0))), none, 2⟩] [])
 (.block 0 (.loop (.seq (.reg [⟨(some 39), (.bin .lss (.t 38) (.c (.int 16))), none, 2⟩] [])
 (.seq (.cond (.t 39)
 .skip
 (.exit 0))
 (.seq (.block 1 (.seq (.reg [⟨(some 40), (.mov (.t 38)), none, 2⟩, ⟨(some 5), (.mov (.t 40)), none, 2⟩] [])
 (.reg [⟨(some 41), (.mov (.t 5)), none, 2⟩, ⟨(some 42), (.mov (.t 3)), none, 2⟩, ⟨(some 43), (.mov (.t 5)), none, 2⟩, ⟨(some 44), (.bin .quo (.t 43) (.c (.int 4))), none, 2⟩, ⟨(some 45), (.nilck (.t 42)), none, 2⟩, ⟨(some 46), (.fad 0 (.t 45)), none, 2⟩, ⟨(some 47), (.iadA 8 1 (.t 46) (.t 44)), none, 2⟩, ⟨(some 48), (.load none (.t 47)), none, 2⟩, ⟨(some 49), (.mov (.t 5)), none, 2⟩, ⟨(some 50), (.bin .rem (.t 49) (.c (.int 4))), none, 2⟩, ⟨(some 51), (.bin .mul (.c (.int 8)) (.t 50)), none, 2⟩, ⟨(some 52), (.bin .shr (.t 48) (.t 51)), none, 2⟩, ⟨(some 53), (.conv .u32u8 (.t 52)), none, 2⟩, ⟨(some 54), (.iadA 16 1 (.t 4) (.t 41)), none, 2⟩, ⟨none, (.store none (.t 54) (.t 53)), none, 2⟩] [])))
 (.reg [⟨(some 55), (.bin .add (.t 38) (.c (.int 1))), none, 2⟩, ⟨(some 38), (.mov (.t 55)), none, 2⟩] [])))))))
 (.seq (.reg [⟨(some 56), (.load (some 16) (.t 4)), none, 2⟩, ⟨none, (.store (some 16) (.t 2) (.t 56)), none, 2⟩] [])
 .ret)))))))))
theorem o85 : FnOK Try.prog 85 N85 res85 c85 := ⟨_, _, Try.f85.results.toList, [], pures, Try.func85, show _ = some (Try.f85.body.getD .skip) by kernel_rfl, (Array.toArray_toList).symm, by kernel_rfl, by kernel_rfl, by kernel_rfl, by kernel_rfl, follows, callFunc_enter Try.func85 (by kernel_rfl) (by kernel_rfl)⟩
-- (*sentinel/sponge.Sponge).take
def N87 : Nat := 60
def keep87 : List Nat := [0, 1, 4, 5, 6]
def res87 : List RV := []
def c87 : CC :=
 (.seq (.seq (.reg [⟨(some 5), (.mov (.c (.int 0))), none, 2⟩] [])
 (.block 0 (.loop (.seq (.reg [⟨(some 6), (.bin .lss (.t 5) (.c (.int 4))), none, 2⟩] [])
 (.seq (.cond (.t 6)
 .skip
 (.exit 0))
 (.seq (.block 1 (.seq (.reg [⟨(some 7), (.mov (.t 5)), none, 2⟩, ⟨(some 4), (.mov (.t 7)), none, 2⟩] [])
 (.reg [⟨(some 8), (.mov (.t 0)), none, 0⟩, ⟨(some 9), (.mov (.t 4)), none, 0⟩, ⟨(some 10), (.nilck (.t 8)), none, 0⟩, ⟨(some 11), (.fad 0 (.t 10)), none, 0⟩, ⟨(some 12), (.iadA 8 1 (.t 11) (.t 9)), none, 0⟩, ⟨(some 13), (.load none (.t 12)), none, 1⟩, ⟨(some 14), (.mov (.t 1)), none, 0⟩, ⟨(some 15), (.mov (.t 4)), none, 0⟩, ⟨(some 16), (.bin .mul (.c (.int 4)) (.t 15)), none, 0⟩, ⟨(some 17), (.iadS 1 (.t 14) (.t 16)), none, 1⟩, ⟨(some 18), (.load none (.t 17)), none, 1⟩, ⟨(some 19), (.conv .u8u32 (.t 18)), none, 0⟩, ⟨(some 20), (.mov (.t 1)), none, 0⟩, ⟨(some 21), (.mov (.t 4)), none, 0⟩, ⟨(some 22), (.bin .mul (.c (.int 4)) (.t 21)), none, 0⟩, ⟨(some 23), (.bin .add (.t 22) (.c (.int 1))), none, 0⟩, ⟨(some 24), (.iadS 1 (.t 20) (.t 23)), none, 1⟩, ⟨(some 25), (.load none (.t 24)), none, 1⟩, ⟨(some 26), (.conv .u8u32 (.t 25)), none, 0⟩, ⟨(some 27), (.bin .shl (.t 26) (.c (.u64 8))), none, 0⟩, ⟨(some 28), (.bin .or (.t 19) (.t 27)), none, 0⟩, ⟨(some 29), (.mov (.t 1)), none, 0⟩, ⟨(some 30), (.mov (.t 4)), none, 0⟩, ⟨(some 31), (.bin .mul (.c (.int 4)) (.t 30)), none, 0⟩, ⟨(some 32), (.bin .add (.t 31) (.c (.int 2))), none, 0⟩, ⟨(some 33), (.iadS 1 (.t 29) (.t 32)), none, 1⟩, ⟨(some 34), (.load none (.t 33)), none, 1⟩, ⟨(some 35), (.conv .u8u32 (.t 34)), none, 0⟩, ⟨(some 36), (.bin .shl (.t 35) (.c (.u64 16))), none, 0⟩, ⟨(some 37), (.bin .or (.t 28) (.t 36)), none, 0⟩, ⟨(some 38), (.mov (.t 1)), none, 0⟩, ⟨(some 39), (.mov (.t 4)), none, 0⟩, ⟨(some 40), (.bin .mul (.c (.int 4)) (.t 39)), none, 0⟩, ⟨(some 41), (.bin .add (.t 40) (.c (.int 3))), none, 0⟩, ⟨(some 42), (.iadS 1 (.t 38) (.t 41)), none, 1⟩, ⟨(some 43), (.load none (.t 42)), none, 1⟩, ⟨(some 44), (.conv .u8u32 (.t 43)), none, 0⟩, ⟨(some 45), (.bin .shl (.t 44) (.c (.u64 24))), none, 0⟩, ⟨(some 46), (.bin .or (.t 37) (.t 45)), none, 0⟩, ⟨(some 47), (.bin .xor (.t 13) (.t 46)), none, 0⟩, ⟨(some 48), (.nilck (.t 8)), none, 0⟩, ⟨(some 49), (.fad 0 (.t 48)), none, 0⟩, ⟨(some 50), (.iadA 8 1 (.t 49) (.t 9)), none, 0⟩, ⟨none, (.store none (.t 50) (.t 47)), none, 2⟩] [])))
 (.reg [⟨(some 51), (.bin .add (.t 5) (.c (.int 1))), none, 2⟩, ⟨(some 5), (.mov (.t 51)), none, 2⟩] [])))))))
 (.reg [⟨(some 52), (.mov (.t 0)), none, 2⟩, ⟨(some 53), (.mov (.t 0)), none, 2⟩, ⟨(some 54), (.nilck (.t 53)), none, 2⟩, ⟨(some 55), (.fad 0 (.t 54)), none, 2⟩, ⟨(some 56), (.load (some 8) (.t 55)), none, 2⟩, ⟨(some 57), (.call (.c (.fn 88 [])) [(.t 56)]), none, 2⟩, ⟨(some 58), (.nilck (.t 52)), none, 2⟩, ⟨(some 59), (.fad 0 (.t 58)), none, 2⟩, ⟨none, (.store (some 8) (.t 59) (.t 57)), none, 2⟩] []))
theorem o87 : FnOK Try.prog 87 N87 res87 c87 := ⟨_, _, Try.f87.results.toList, [], pures, Try.func87, show _ = some (Try.f87.body.getD .skip) by kernel_rfl, (Array.toArray_toList).symm, by kernel_rfl, by kernel_rfl, by kernel_rfl, by kernel_rfl, follows, callFunc_enter Try.func87 (by kernel_rfl) (by kernel_rfl)⟩
-- sentinel/sponge.Mix
def N88 : Nat := 87
def keep88 : List Nat := [0, 1, 2, 3, 5]
def res88 : List RV := [(.c 2 (some 8))]
def c88 : CC :=
 (.seq (.reg [⟨(some 1), (.box (.t 0)), none, 2⟩, ⟨(some 2), (.alloc (.agg [(.u32 0), (.u32 0), (.u32 0), (.u32 0), (.u32 0), (.u32 0), (.u32 0), (.u32 0)])), none, 2⟩] [])
 (.seq (.seq (.reg [⟨(some 3), (.mov (.c (.int 1))), none, 2⟩] [])
 (.block 0 (.loop (.seq (.seq (.reg [⟨(some 4), (.mov (.t 3)), none, 2⟩, ⟨(some 5), (.bin .leq (.t 4) (.c (.int 8))), none, 2⟩] [])
 (.cond (.t 5)
 .skip
 (.exit 0)))
 (.seq (.block 1 (.seq (.reg [⟨(some 8), (.iadA 8 1 (.t 1) (.c (.int 0))), none, 2⟩, ⟨(some 9), (.load none (.t 8)), none, 2⟩, ⟨(some 10), (.mov (.t 3)), none, 2⟩, ⟨(some 11), (.conv .iu32 (.t 10)), none, 2⟩, ⟨(some 12), (.bin .xor (.t 9) (.t 11)), none, 2⟩, ⟨(some 13), (.iadA 8 1 (.t 1) (.c (.int 0))), none, 2⟩, ⟨none, (.store none (.t 13) (.t 12)), none, 2⟩] [])
 (.seq (.reg [⟨(some 15), (.iadA 8 1 (.t 1) (.c (.int 0))), none, 2⟩, ⟨(some 16), (.load none (.t 15)), none, 2⟩, ⟨(some 17), (.iadA 8 1 (.t 1) (.c (.int 1))), none, 2⟩, ⟨(some 18), (.load none (.t 17)), none, 2⟩, ⟨(some 19), (.iadA 8 1 (.t 1) (.c (.int 2))), none, 2⟩, ⟨(some 20), (.load none (.t 19)), none, 2⟩, ⟨(some 21), (.iadA 8 1 (.t 1) (.c (.int 3))), none, 2⟩, ⟨(some 22), (.load none (.t 21)), none, 2⟩, ⟨(some 23), (.call (.c (.fn 89 [])) [(.t 16), (.t 18), (.t 20), (.t 22)]), none, 2⟩, ⟨(some 14), (.mov (.t 23)), none, 2⟩, ⟨(some 24), (.ext (.t 14) 0), none, 2⟩, ⟨(some 25), (.ext (.t 14) 1), none, 2⟩, ⟨(some 26), (.ext (.t 14) 2), none, 2⟩, ⟨(some 27), (.ext (.t 14) 3), none, 2⟩, ⟨(some 28), (.iadA 8 1 (.t 1) (.c (.int 0))), none, 2⟩, ⟨none, (.store none (.t 28) (.t 24)), none, 2⟩, ⟨(some 29), (.iadA 8 1 (.t 1) (.c (.int 1))), none, 2⟩, ⟨none, (.store none (.t 29) (.t 25)), none, 2⟩, ⟨(some 30), (.iadA 8 1 (.t 1) (.c (.int 2))), none, 2⟩, ⟨none, (.store none (.t 30) (.t 26)), none, 2⟩, ⟨(some 31), (.iadA 8 1 (.t 1) (.c (.int 3))), none, 2⟩, ⟨none, (.store none (.t 31) (.t 27)), none, 2⟩] [])
 (.seq (.reg [⟨(some 33), (.iadA 8 1 (.t 1) (.c (.int 4))), none, 2⟩, ⟨(some 34), (.load none (.t 33)), none, 2⟩, ⟨(some 35), (.iadA 8 1 (.t 1) (.c (.int 5))), none, 2⟩, ⟨(some 36), (.load none (.t 35)), none, 2⟩, ⟨(some 37), (.iadA 8 1 (.t 1) (.c (.int 6))), none, 2⟩, ⟨(some 38), (.load none (.t 37)), none, 2⟩, ⟨(some 39), (.iadA 8 1 (.t 1) (.c (.int 7))), none, 2⟩, ⟨(some 40), (.load none (.t 39)), none, 2⟩, ⟨(some 41), (.call (.c (.fn 89 [])) [(.t 34), (.t 36), (.t 38), (.t 40)]), none, 2⟩, ⟨(some 32), (.mov (.t 41)), none, 2⟩, ⟨(some 42), (.ext (.t 32) 0), none, 2⟩, ⟨(some 43), (.ext (.t 32) 1), none, 2⟩, ⟨(some 44), (.ext (.t 32) 2), none, 2⟩, ⟨(some 45), (.ext (.t 32) 3), none, 2⟩, ⟨(some 46), (.iadA 8 1 (.t 1) (.c (.int 4))), none, 2⟩, ⟨none, (.store none (.t 46) (.t 42)), none, 2⟩, ⟨(some 47), (.iadA 8 1 (.t 1) (.c (.int 5))), none, 2⟩, ⟨none, (.store none (.t 47) (.t 43)), none, 2⟩, ⟨(some 48), (.iadA 8 1 (.t 1) (.c (.int 6))), none, 2⟩, ⟨none, (.store none (.t 48) (.t 44)), none, 2⟩, ⟨(some 49), (.iadA 8 1 (.t 1) (.c (.int 7))), none, 2⟩, ⟨none, (.store none (.t 49) (.t 45)), none, 2⟩] [])
 (.seq (.reg [⟨(some 51), (.iadA 8 1 (.t 1) (.c (.int 0))), none, 2⟩, ⟨(some 52), (.load none (.t 51)), none, 2⟩, ⟨(some 53), (.iadA 8 1 (.t 1) (.c (.int 5))), none, 2⟩, ⟨(some 54), (.load none (.t 53)), none, 2⟩, ⟨(some 55), (.iadA 8 1 (.t 1) (.c (.int 2))), none, 2⟩, ⟨(some 56), (.load none (.t 55)), none, 2⟩, ⟨(some 57), (.iadA 8 1 (.t 1) (.c (.int 7))), none, 2⟩, ⟨(some 58), (.load none (.t 57)), none, 2⟩, ⟨(some 59), (.call (.c (.fn 89 [])) [(.t 52), (.t 54), (.t 56), (.t 58)]), none, 2⟩, ⟨(some 50), (.mov (.t 59)), none, 2⟩, ⟨(some 60), (.ext (.t 50) 0), none, 2⟩, ⟨(some 61), (.ext (.t 50) 1), none, 2⟩, ⟨(some 62), (.ext (.t 50) 2), none, 2⟩, ⟨(some 63), (.ext (.t 50) 3), none, 2⟩, ⟨(some 64), (.iadA 8 1 (.t 1) (.c (.int 0))), none, 2⟩, ⟨none, (.store none (.t 64) (.t 60)), none, 2⟩, ⟨(some 65), (.iadA 8 1 (.t 1) (.c (.int 5))), none, 2⟩, ⟨none, (.store none (.t 65) (.t 61)), none, 2⟩, ⟨(some 66), (.iadA 8 1 (.t 1) (.c (.int 2))), none, 2⟩, ⟨none, (.store none (.t 66) (.t 62)), none, 2⟩, ⟨(some 67), (.iadA 8 1 (.t 1) (.c (.int 7))), none, 2⟩, ⟨none, (.store none (.t 67) (.t 63)), none, 2⟩] [])
 (.reg [⟨(some 69), (.iadA 8 1 (.t 1) (.c (.int 4))), none, 2⟩, ⟨(some 70), (.load none (.t 69)), none, 2⟩, ⟨(some 71), (.iadA 8 1 (.t 1) (.c (.int 1))), none, 2⟩, ⟨(some 72), (.load none (.t 71)), none, 2⟩, ⟨(some 73), (.iadA 8 1 (.t 1) (.c (.int 6))), none, 2⟩, ⟨(some 74), (.load none (.t 73)), none, 2⟩, ⟨(some 75), (.iadA 8 1 (.t 1) (.c (.int 3))), none, 2⟩, ⟨(some 76), (.load none (.t 75)), none, 2⟩, ⟨(some 77), (.call (.c (.fn 89 [])) [(.t 70), (.t 72), (.t 74), (.t 76)]), none, 2⟩, ⟨(some 68), (.mov (.t 77)), none, 2⟩, ⟨(some 78), (.ext (.t 68) 0), none, 2⟩, ⟨(some 79), (.ext (.t 68) 1), none, 2⟩, ⟨(some 80), (.ext (.t 68) 2), none, 2⟩, ⟨(some 81), (.ext (.t 68) 3), none, 2⟩, ⟨(some 82), (.iadA 8 1 (.t 1) (.c (.int 4))), none, 2⟩, ⟨none, (.store none (.t 82) (.t 78)), none, 2⟩, ⟨(some 83), (.iadA 8 1 (.t 1) (.c (.int 1))), none, 2⟩, ⟨none, (.store none (.t 83) (.t 79)), none, 2⟩, ⟨(some 84), (.iadA 8 1 (.t 1) (.c (.int 6))), none, 2⟩, ⟨none, (.store none (.t 84) (.t 80)), none, 2⟩, ⟨(some 85), (.iadA 8 1 (.t 1) (.c (.int 3))), none, 2⟩, ⟨none, (.store none (.t 85) (.t 81)), none, 2⟩] []))))))
 (.reg [⟨(some 6), (.mov (.t 3)), none, 2⟩, ⟨(some 7), (.bin .add (.t 6) (.c (.int 1))), none, 2⟩, ⟨(some 3), (.mov (.t 7)), none, 2⟩] []))))))
 (.seq (.reg [⟨(some 86), (.load (some 8) (.t 1)), none, 2⟩, ⟨none, (.store (some 8) (.t 2) (.t 86)), none, 2⟩] [])
 .ret)))
theorem o88 : FnOK Try.prog 88 N88 res88 c88 := ⟨_, _, Try.f88.results.toList, [], pures, Try.func88, show _ = some (Try.f88.body.getD .skip) by kernel_rfl, (Array.toArray_toList).symm, by kernel_rfl, by kernel_rfl, by kernel_rfl, by kernel_rfl, follows, callFunc_enter Try.func88 (by kernel_rfl) (by kernel_rfl)⟩
-- sentinel/sponge.quarter
def N89 : Nat := 44
def keep89 : List Nat := [0, 1, 2, 3, 8, 9, 10, 11]
def res89 : List RV := [(.t 8), (.t 9), (.t 10), (.t 11)]
def c89 : CC :=
 (.seq (.reg [⟨(some 8), (.mov (.c (.u32 0))), none, 2⟩, ⟨(some 9), (.mov (.c (.u32 0))), none, 2⟩, ⟨(some 10), (.mov (.c (.u32 0))), none, 2⟩, ⟨(some 11), (.mov (.c (.u32 0))), none, 2⟩] [])
 (.seq (.reg [⟨(some 12), (.mov (.t 0)), none, 2⟩, ⟨(some 13), (.mov (.t 1)), none, 2⟩, ⟨(some 14), (.bin .add (.t 12) (.t 13)), none, 2⟩, ⟨(some 0), (.mov (.t 14)), none, 2⟩] [])
 (.seq (.reg [⟨(some 15), (.mov (.t 3)), none, 2⟩, ⟨(some 16), (.mov (.t 0)), none, 2⟩, ⟨(some 17), (.bin .xor (.t 15) (.t 16)), none, 2⟩, ⟨(some 18), (.call (.c (.fn 90 [])) [(.t 17), (.c (.int 16))]), none, 2⟩, ⟨(some 3), (.mov (.t 18)), none, 2⟩] [])
 (.seq (.reg [⟨(some 19), (.mov (.t 2)), none, 2⟩, ⟨(some 20), (.mov (.t 3)), none, 2⟩, ⟨(some 21), (.bin .add (.t 19) (.t 20)), none, 2⟩, ⟨(some 2), (.mov (.t 21)), none, 2⟩] [])
 (.seq (.reg [⟨(some 22), (.mov (.t 1)), none, 2⟩, ⟨(some 23), (.mov (.t 2)), none, 2⟩, ⟨(some 24), (.bin .xor (.t 22) (.t 23)), none, 2⟩, ⟨(some 25), (.call (.c (.fn 90 [])) [(.t 24), (.c (.int 12))]), none, 2⟩, ⟨(some 1), (.mov (.t 25)), none, 2⟩] [])
 (.seq (.reg [⟨(some 26), (.mov (.t 0)), none, 2⟩, ⟨(some 27), (.mov (.t 1)), none, 2⟩, ⟨(some 28), (.bin .add (.t 26) (.t 27)), none, 2⟩, ⟨(some 0), (.mov (.t 28)), none, 2⟩] [])
 (.seq (.reg [⟨(some 29), (.mov (.t 3)), none, 2⟩, ⟨(some 30), (.mov (.t 0)), none, 2⟩, ⟨(some 31), (.bin .xor (.t 29) (.t 30)), none, 2⟩, ⟨(some 32), (.call (.c (.fn 90 [])) [(.t 31), (.c (.int 8))]), none, 2⟩, ⟨(some 3), (.mov (.t 32)), none, 2⟩] [])
 (.seq (.reg [⟨(some 33), (.mov (.t 2)), none, 2⟩, ⟨(some 34), (.mov (.t 3)), none, 2⟩, ⟨(some 35), (.bin .add (.t 33) (.t 34)), none, 2⟩, ⟨(some 2), (.mov (.t 35)), none, 2⟩] [])
 (.seq (.reg [⟨(some 36), (.mov (.t 1)), none, 2⟩, ⟨(some 37), (.mov (.t 2)), none, 2⟩, ⟨(some 38), (.bin .xor (.t 36) (.t 37)), none, 2⟩, ⟨(some 39), (.call (.c (.fn 90 [])) [(.t 38), (.c (.int 7))]), none, 2⟩, ⟨(some 1), (.mov (.t 39)), none, 2⟩] [])
 (.seq (.reg [⟨(some 40), (.mov (.t 0)), none, 2⟩, ⟨(some 41), (.mov (.t 1)), none, 2⟩, ⟨(some 42), (.mov (.t 2)), none, 2⟩, ⟨(some 43), (.mov (.t 3)), none, 2⟩, ⟨(some 8), (.mov (.t 40)), none, 2⟩, ⟨(some 9), (.mov (.t 41)), none, 2⟩, ⟨(some 10), (.mov (.t 42)), none, 2⟩, ⟨(some 11), (.mov (.t 43)), none, 2⟩] [])
 .ret))))))))))
theorem o89 : FnOK Try.prog 89 N89 res89 c89 := ⟨_, _, Try.f89.results.toList, [], pures, Try.func89, show _ = some (Try.f89.body.getD .skip) by kernel_rfl, (Array.toArray_toList).symm, by kernel_rfl, by kernel_rfl, by kernel_rfl, by kernel_rfl, follows, callFunc_enter Try.func89 (by kernel_rfl) (by kernel_rfl)⟩
-- math/bits.RotateLeft32
def N90 : Nat := 17
def keep90 : List Nat := [0, 1, 4, 5]
def res90 : List RV := [(.t 4)]
def c90 : CC :=
 (.seq (.reg [⟨(some 4), (.mov (.c (.u32 0))), none, 2⟩] [])
 (.seq (.reg [⟨(some 6), (.mov (.t 1)), none, 2⟩, ⟨(some 7), (.conv .iu64 (.t 6)), none, 2⟩, ⟨(some 8), (.bin .and (.t 7) (.c (.u64 31))), none, 2⟩, ⟨(some 5), (.mov (.t 8)), none, 2⟩] [])
 (.seq (.reg [⟨(some 9), (.mov (.t 0)), none, 2⟩, ⟨(some 10), (.mov (.t 5)), none, 2⟩, ⟨(some 11), (.bin .shl (.t 9) (.t 10)), none, 2⟩, ⟨(some 12), (.mov (.t 0)), none, 2⟩, ⟨(some 13), (.mov (.t 5)), none, 2⟩, ⟨(some 14), (.bin .sub (.c (.u64 32)) (.t 13)), none, 2⟩, ⟨(some 15), (.bin .shr (.t 12) (.t 14)), none, 2⟩, ⟨(some 16), (.bin .or (.t 11) (.t 15)), none, 2⟩, ⟨(some 4), (.mov (.t 16)), none, 2⟩] [])
 .ret)))
theorem o90 : FnOK Try.prog 90 N90 res90 c90 := ⟨_, _, Try.f90.results.toList, [], pures, Try.func90, show _ = some (Try.f90.body.getD .skip) by kernel_rfl, (Array.toArray_toList).symm, by kernel_rfl, by kernel_rfl, by kernel_rfl, by kernel_rfl, follows, callFunc_enter Try.func90 (by kernel_rfl) (by kernel_rfl)⟩
end Go.Abs
