/-
  Own work. Conditions: none. The code of the functions of this seat in the short form. (Own work; printed by our own program.)
-/
import Derived.Test.YtpemjeljhpkjhaaGreatAbsC
import Derived.Test.YtpemjeljhpkjhaaGreatProg
import Derived.KernelRfl
set_option linter.unusedVariables false
set_option linter.unusedSimpArgs false
set_option linter.unnecessarySimpa false
namespace Go.Abs
open Go.Proofs
set_option maxRecDepth 100000
theorem follows : Tryz.prog.follows .mixedOrders = true := by kernel_rfl
def pures : List Nat := [12, 16, 26, 30, 31, 34, 36, 42, 43, 46, 47, 55, 56, 60, 61, 62, 63, 67, 68, 69, 70, 71, 72, 73, 74, 75, 76, 77, 78, 79, 81, 83, 85, 86, 87, 89, 90, 92, 93, 94, 95, 96, 97, 98, 102, 109, 112, 113, 116, 123, 124, 126, 131, 132, 133]
def qm (a b : Nat) : CO := ⟨some a, .mov (.t b), none, 2⟩
def qz (a b : Nat) : CO := ⟨some a, .mov (.t b), none, 0⟩
def ql (a b : Nat) : CO := ⟨some a, .load none (.t b), none, 2⟩
def qk (a b : Nat) : CO := ⟨some a, .load none (.t b), none, 1⟩
def qf (a k b : Nat) : CO := ⟨some a, .fad k (.t b), none, 2⟩
def qn (a b : Nat) : CO := ⟨some a, .nilck (.t b), none, 2⟩
def qg (a b : Nat) : CO := ⟨some a, .len false (.t b), none, 2⟩
def qe (a b k : Nat) : CO := ⟨some a, .ext (.t b) k, none, 2⟩
def qc (a f : Nat) (xs : List X) : CO := ⟨some a, .call (.c (.fn f [])) xs, none, 2⟩
def qi (a s x y : Nat) : CO := ⟨some a, .iadS s (.t x) (.t y), none, 2⟩
def qb (a : Nat) (o : BinOp) (x y : X) : CO := ⟨some a, .bin o x y, none, 2⟩
def qs (a b : Nat) : CO := ⟨none, .store none (.t a) (.t b), none, 2⟩
def qj (a : Nat) (n : Int) : CO := ⟨some a, .mov (.c (.int n)), none, 2⟩
def qo (a : Nat) (o : IOp) : CO := ⟨some a, o, none, 2⟩
abbrev qR (o : List CO) (b : CC) : CC := .seq (.reg o []) b
def qv : AV := (.agg [(.int 0), (.str []), (.sl true 0 0 (.agg []) true), (.u32 0), (.u32 0), (.u32 0), (.u32 0), (.u32 0), (.u32 0), (.u32 0), (.u32 0), (.u32 0), (.u32 0), (.u32 0), (.u32 0), (.u32 0), (.u32 0), (.u32 0), (.u32 0), (.sl true 0 0 (.agg []) true), (.int 0), (.int 0), (.int 0)])
attribute [go_sem] qm qz ql qk qf qn qg qe qc qi qb qs qj qo qR qv
theorem mkF {f N : Nat} {res : List RV} {cc : CC} {fn : Func} (mu pu : List Nat) (hf : Tryz.prog.funcs[f]? = some fn) (hb : fn.body = some (fn.body.getD .skip) := by kernel_rfl) (h4 : rvOK (tiOf Tryz.prog) fn.results.toList = true := by kernel_rfl) (h5 : fn.ntmps = N := by kernel_rfl) (h6 : comp (tiOf Tryz.prog) mu pu N (fn.body.getD .skip) = cc := by kernel_rfl) (h7 : fn.results.toList.map (rvOf (tiOf Tryz.prog)) = res := by kernel_rfl) (hn : (fn.name == "runtime.NumGoroutine") = false := by kernel_rfl) (hi : fn.body.isNone = false := by kernel_rfl) : FnOK Tryz.prog f N res cc := ⟨_, _, fn.results.toList, mu, pu, hf, hb, (Array.toArray_toList).symm, h4, h5, h6, h7, follows, callFunc_enter hf hn hi⟩
-- sentinel/sentinellaw6.known
def N8 : Nat := 57
def keep8 : List Nat := [0, 1, 2, 3, 4, 5, 13]
def res8 : List RV := [(.t 0)]
def c8 : CC :=
 (qR [qo 0 (.mov (.c (.bool false)))]
 (qR [qc 6 9 [], qm 1 6]
 (.seq (qR [qm 7 1, qo 8 (.eq false .ptr (.t 7) (.c .nilp)), qm 9 8, ⟨(some 10), (.mov (.t 1)), (some (9, false)), 2⟩, ⟨(some 11), (.call (.c (.fn 21 [])) [(.t 10)]), (some (9, false)), 2⟩, ⟨(some 12), (.eq true .sc (.t 11) (.c (.int 1))), (some (9, false)), 2⟩, qo 13 (.pick (.t 9) (.c (.bool true)) (.t 12))]
 (.cond (.t 13)
 (qR [qo 0 (.mov (.c (.bool false)))]
 .ret)
 .skip))
 (qR [qm 14 1, qo 15 (.build [(.int 0), (.str []), (.sl true 0 0 (.agg []) true), (.u32 0), (.u32 0), (.u32 0), (.u32 0), (.u32 0), (.u32 0), (.u32 0), (.u32 0), (.u32 0), (.u32 0), (.u32 0), (.u32 0), (.u32 0), (.u32 0), (.u32 0), (.u32 0), (.sl true 0 0 (.agg []) true), (.int 0), (.int 0), (.int 0)] [(0, (1, (.c (.int 1)))), (1, (1, (.c (.str [97]))))]), qc 16 17 [(.t 14), (.t 15)], qm 2 16]
 (qR [qm 18 1, qo 19 (.call (.c (.fn 19 [])) [(.t 18), (.c (.str [97]))]), qm 17 19, qe 20 17 0, qe 21 17 1, qo 3 (.alloc qv), ⟨none, (.store (some 23) (.t 3) (.t 20)), none, 2⟩, qm 4 21]
 (qR [qm 22 1, qc 23 20 [(.t 22)], qm 5 23]
 (qR [qm 24 1, qo 25 (.call (.c (.fn 25 [])) [(.t 24), (.c (.sl true 0 0 (.agg []) true))])]
 (qR [qm 26 2, qo 27 (.eq false .sc (.t 26) (.c (.int 0))), qm 28 27, ⟨(some 29), (.mov (.t 4)), (some (28, true)), 2⟩, qo 30 (.pick (.t 28) (.t 29) (.c (.bool false))), qm 31 30, ⟨(some 32), (.fad 1 (.t 3)), (some (31, true)), 2⟩, ⟨(some 33), (.load none (.t 32)), (some (31, true)), 2⟩, ⟨(some 34), (.eq false .sc (.t 33) (.c (.str [97]))), (some (31, true)), 2⟩, qo 35 (.pick (.t 31) (.t 34) (.c (.bool false))), qm 36 35, ⟨(some 37), (.mov (.t 5)), (some (36, true)), 2⟩, ⟨(some 38), (.len false (.t 37)), (some (36, true)), 2⟩, ⟨(some 39), (.eq false .sc (.t 38) (.c (.int 1))), (some (36, true)), 2⟩, qo 40 (.pick (.t 36) (.t 39) (.c (.bool false))), qm 41 40, ⟨(some 42), (.mov (.t 1)), (some (41, true)), 2⟩, ⟨(some 43), (.call (.c (.fn 21 [])) [(.t 42)]), (some (41, true)), 2⟩, ⟨(some 44), (.eq false .sc (.t 43) (.c (.int 2))), (some (41, true)), 2⟩, qo 45 (.pick (.t 41) (.t 44) (.c (.bool false))), qm 46 45, ⟨(some 47), (.mov (.t 1)), (some (46, true)), 2⟩, ⟨(some 48), (.call (.c (.fn 27 [])) [(.t 47)]), (some (46, true)), 2⟩, ⟨(some 49), (.un .not (.t 48)), (some (46, true)), 2⟩, qo 50 (.pick (.t 46) (.t 49) (.c (.bool false))), qm 51 50, ⟨(some 52), (.mov (.t 1)), (some (51, true)), 2⟩, ⟨(some 53), (.call (.c (.fn 23 [])) [(.t 52)]), (some (51, true)), 2⟩, ⟨(some 54), (.len false (.t 53)), (some (51, true)), 2⟩, ⟨(some 55), (.eq false .sc (.t 54) (.c (.int 18))), (some (51, true)), 2⟩, qo 56 (.pick (.t 51) (.t 55) (.c (.bool false))), qm 0 56]
 .ret))))))))
theorem o8 : FnOK Tryz.prog 8 N8 res8 c8 := mkF [] pures Tryz.func8
-- sentinel/vault.New
def N9 : Nat := 10
def keep9 : List Nat := [0, 1]
def res9 : List RV := [(.t 0)]
def c9 : CC :=
 (qR [qo 0 (.mov (.c .nilp))]
 (qR [qo 2 (.mksl .other 3 56 [(.sl true 0 0 (.agg []) true), (.sl true 0 0 (.agg []) true), (.bool false)] (.c (.int 18)) (.c (.int 18))), qo 3 (.build [(.sl true 0 0 (.agg []) true), (.int 0), (.bool false)] [(0, (1, (.t 2))), (1, (1, (.c (.int (-1)))))]), qo 4 (.build [(.sl true 0 0 (.agg []) true), (.int 0), (.bool false)] [(0, (3, (.t 3)))]), qo 5 (.box (.t 4)), qm 1 5]
 (qR [qm 6 1, qc 7 34 [(.c (.int 1))], qc 8 33 [(.t 6), (.c (.int 8)), (.t 7)]]
 (qR [qm 9 1, qm 0 9]
 .ret))))
theorem o9 : FnOK Tryz.prog 9 N9 res9 c9 := mkF [] pures Tryz.func9
-- sentinel/sentinelref6.New
def N10 : Nat := 8
def keep10 : List Nat := [0, 1]
def res10 : List RV := [(.t 0)]
def c10 : CC :=
 (qR [qo 0 (.mov (.c .nilp))]
 (qR [qo 2 (.mksl .other 3 56 [(.sl true 0 0 (.agg []) true), (.sl true 0 0 (.agg []) true), (.bool false)] (.c (.int 18)) (.c (.int 18))), qo 3 (.build [(.sl true 0 0 (.agg []) true), (.int 0), (.bool false)] [(0, (1, (.t 2))), (1, (1, (.c (.int (-1)))))]), qo 4 (.box (.t 3)), qm 1 4]
 (qR [qm 5 1, qc 6 35 [(.t 5)]]
 (qR [qm 7 1, qm 0 7]
 .ret))))
theorem o10 : FnOK Tryz.prog 10 N10 res10 c10 := mkF [] pures Tryz.func10
-- sentinel/sentinellaw6.step
def N11 : Nat := 117
def keep11 : List Nat := [0, 1, 2, 3, 4, 10, 11, 12, 13, 14, 15, 16, 17, 18, 19, 23, 49, 61, 70, 85, 97, 102]
def res11 : List RV := [(.t 10)]
def c11 : CC :=
 (qR [qo 10 (.mov (.c (.bool false)))]
 (qR [qm 20 2, qb 21 .quo (.t 20) (.c (.int 12)), qm 11 21]
 (.seq (qR [qm 22 2, qb 23 .rem (.t 22) (.c (.int 12))]
 (.block 0 (.seq (qR [qo 50 (.eq false .sc (.t 23) (.c (.int 0))), qm 49 50]
 (.cond (.t 49)
 .skip
 (qR [qo 51 (.eq false .sc (.t 23) (.c (.int 1))), qm 49 51]
 (.cond (.t 49)
 .skip
 (qR [qo 52 (.eq false .sc (.t 23) (.c (.int 2))), qm 49 52]
 (.cond (.t 49)
 .skip
 (qR [qo 53 (.eq false .sc (.t 23) (.c (.int 3))), qm 49 53]
 (.cond (.t 49)
 .skip
 (qR [qo 54 (.eq false .sc (.t 23) (.c (.int 4))), qm 49 54]
 (.cond (.t 49)
 .skip
 (.reg [qo 55 (.eq false .sc (.t 23) (.c (.int 5))), qm 49 55] [])))))))))))
 (.cond (.t 49)
 (qR [qm 56 11, qm 57 3, qc 58 16 [(.t 56), (.t 57)], qo 12 (.alloc qv), ⟨none, (.store (some 23) (.t 12) (.t 58)), none, 2⟩]
 (.seq (qR [qm 59 11, qb 60 .rem (.t 59) (.c (.int 41)), qo 61 (.eq false .sc (.t 60) (.c (.int 0)))]
 (.cond (.t 61)
 (.reg [qf 62 20 12, ⟨none, (.store none (.t 62) (.c (.int 300))), none, 2⟩] [])
 .skip))
 (qR [qz 63 0, ⟨(some 64), (.load (some 23) (.t 12)), none, 1⟩, ⟨(some 65), (.call (.c (.fn 17 [])) [(.t 63), (.t 64)]), none, 17⟩, qz 66 1, ⟨(some 67), (.load (some 23) (.t 12)), none, 1⟩, qc 68 18 [(.t 66), (.t 67)], ⟨(some 69), (.eq false .sc (.t 65) (.t 68)), none, 0⟩, qz 10 69]
 .ret)))
 (.seq (qR [qo 71 (.eq false .sc (.t 23) (.c (.int 6))), qm 70 71]
 (.cond (.t 70)
 .skip
 (.reg [qo 72 (.eq false .sc (.t 23) (.c (.int 7))), qm 70 72] [])))
 (.cond (.t 70)
 (qR [qc 73 36 [], qm 74 11, qb 75 .rem (.t 74) (.c (.int 10)), qi 76 1 73 75, ql 77 76, qm 13 77]
 (qR [qm 78 0, qm 79 13, qc 80 22 [(.t 78), (.t 79)], qm 81 1, qm 82 13, qc 83 37 [(.t 81), (.t 82)], qo 84 (.eq false .sc (.t 80) (.t 83)), qm 10 84]
 .ret))
 (qR [qo 86 (.eq false .sc (.t 23) (.c (.int 8))), qm 85 86]
 (.cond (.t 85)
 (qR [qm 87 0, qm 88 11, qb 89 .rem (.t 88) (.c (.int 6)), qb 90 .sub (.t 89) (.c (.int 1)), qc 91 14 [(.t 87), (.t 90)]]
 (.reg [qm 92 1, qm 93 11, qb 94 .rem (.t 93) (.c (.int 6)), qb 95 .sub (.t 94) (.c (.int 1)), qc 96 15 [(.t 92), (.t 95)]] []))
 (.seq (qR [qo 98 (.eq false .sc (.t 23) (.c (.int 9))), qm 97 98]
 (.cond (.t 97)
 .skip
 (.reg [qo 99 (.eq false .sc (.t 23) (.c (.int 10))), qm 97 99] [])))
 (.cond (.t 97)
 (qR [qm 100 11, qb 101 .rem (.t 100) (.c (.int 2)), qo 102 (.eq false .sc (.t 101) (.c (.int 0)))]
 (.cond (.t 102)
 (qR [qm 103 4, qm 104 11, qb 105 .quo (.t 104) (.c (.int 2)), qm 106 4, qg 107 106, qb 108 .add (.t 107) (.c (.int 1)), qc 109 12 [(.t 105), (.t 108)], qo 110 (.slcS 1 (.t 103) none (some (.t 109)) none), qm 14 110]
 (qR [qm 111 0, qm 112 14, qc 113 25 [(.t 111), (.t 112)]]
 (.reg [qm 114 1, qm 115 14, qc 116 38 [(.t 114), (.t 115)]] [])))
 .skip))
 (qR [qc 24 36 [], qm 25 11, qb 26 .rem (.t 25) (.c (.int 10)), qi 27 1 24 26, ql 28 27, qm 15 28]
 (qR [qm 30 0, qm 31 15, qc 32 19 [(.t 30), (.t 31)], qm 29 32, qe 33 29 0, qe 34 29 1, qo 16 (.alloc qv), ⟨none, (.store (some 23) (.t 16) (.t 33)), none, 2⟩, qm 17 34]
 (qR [qm 36 1, qm 37 15, qc 38 28 [(.t 36), (.t 37)], qm 35 38, qe 39 35 0, qe 40 35 1, qo 18 (.alloc qv), ⟨none, (.store (some 23) (.t 18) (.t 39)), none, 2⟩, qm 19 40]
 (qR [qm 41 17, qm 42 19, qo 43 (.eq false .bool (.t 41) (.t 42)), qm 44 43, ⟨(some 45), (.load (some 23) (.t 16)), (some (44, true)), 2⟩, ⟨(some 46), (.load (some 23) (.t 18)), (some (44, true)), 2⟩, ⟨(some 47), (.call (.c (.fn 26 [])) [(.t 45), (.t 46)]), (some (44, true)), 2⟩, qo 48 (.pick (.t 44) (.t 47) (.c (.bool false))), qm 10 48]
 .ret))))))))))))))
 (qR [qo 10 (.mov (.c (.bool true)))]
 .ret))))
theorem o11 : FnOK Tryz.prog 11 N11 res11 c11 := mkF [] (pures ++ [17017]) Tryz.func11
-- sentinel/sentinellaw6.within
def N12 : Nat := 15
def keep12 : List Nat := [0, 1, 4, 5, 10]
def res12 : List RV := [(.t 4)]
def c12 : CC :=
 (qR [qj 4 0]
 (qR [qm 6 0, qm 7 1, qb 8 .rem (.t 6) (.t 7), qm 5 8]
 (.seq (qR [qm 9 5, qb 10 .lss (.t 9) (.c (.int 0))]
 (.cond (.t 10)
 (.reg [qm 11 5, qm 12 1, qb 13 .add (.t 11) (.t 12), qm 5 13] [])
 .skip))
 (qR [qm 14 5, qm 4 14]
 .ret))))
theorem o12 : FnOK Tryz.prog 12 N12 res12 c12 := mkF [] pures Tryz.func12
-- sentinel/sentinellaw6.same
def N13 : Nat := 56
def keep13 : List Nat := [0, 1, 4, 5, 6, 7, 40, 44, 55]
def res13 : List RV := [(.t 4)]
def c13 : CC :=
 (qR [qo 4 (.mov (.c (.bool false)))]
 (qR [qm 8 0, qc 9 20 [(.t 8)], qm 10 1, qc 11 39 [(.t 10)], qm 5 9, qm 6 11]
 (.seq (qR [qz 12 5, ⟨(some 13), (.len false (.t 12)), none, 0⟩, qz 14 6, ⟨(some 15), (.len false (.t 14)), none, 0⟩, ⟨(some 16), (.eq true .sc (.t 13) (.t 15)), none, 0⟩, qz 17 16, ⟨(some 18), (.mov (.t 0)), (some (17, false)), 0⟩, ⟨(some 19), (.call (.c (.fn 21 [])) [(.t 18)]), (some (17, false)), 2⟩, ⟨(some 20), (.mov (.t 1)), (some (17, false)), 0⟩, ⟨(some 21), (.call (.c (.fn 40 [])) [(.t 20)]), (some (17, false)), 2⟩, ⟨(some 22), (.eq true .sc (.t 19) (.t 21)), (some (17, false)), 0⟩, ⟨(some 23), (.pick (.t 17) (.c (.bool true)) (.t 22)), none, 0⟩, qz 24 23, ⟨(some 25), (.mov (.t 0)), (some (24, false)), 0⟩, ⟨(some 26), (.call (.c (.fn 27 [])) [(.t 25)]), (some (24, false)), 2⟩, ⟨(some 27), (.mov (.t 1)), (some (24, false)), 0⟩, ⟨(some 28), (.call (.c (.fn 41 [])) [(.t 27)]), (some (24, false)), 2⟩, ⟨(some 29), (.eq true .bool (.t 26) (.t 28)), (some (24, false)), 0⟩, ⟨(some 30), (.pick (.t 24) (.c (.bool true)) (.t 29)), none, 0⟩, qz 31 30, ⟨(some 32), (.mov (.t 0)), (some (31, false)), 0⟩, ⟨(some 33), (.call (.c (.fn 23 [])) [(.t 32)]), (some (31, false)), 3⟩, ⟨(some 34), (.mov (.t 1)), (some (31, false)), 0⟩, ⟨(some 35), (.nilck (.t 34)), (some (31, false)), 0⟩, ⟨(some 36), (.fad 0 (.t 35)), (some (31, false)), 0⟩, ⟨(some 37), (.load none (.t 36)), (some (31, false)), 1⟩, ⟨(some 38), (.call (.c (.fn 32 [])) [(.t 33), (.t 37)]), (some (31, false)), 2⟩, ⟨(some 39), (.un .not (.t 38)), (some (31, false)), 0⟩, ⟨(some 40), (.pick (.t 31) (.c (.bool true)) (.t 39)), none, 0⟩]
 (.cond (.t 40)
 (qR [qo 4 (.mov (.c (.bool false)))]
 .ret)
 .skip))
 (.seq (qR [qj 7 0]
 (.block 0 (.loop (.seq (qR [qm 41 7, qm 42 5, qg 43 42, qb 44 .lss (.t 41) (.t 43)]
 (.cond (.t 44)
 .skip
 (.exit 0)))
 (.seq (.block 1 (qR [qz 47 5, qz 48 7, ⟨(some 49), (.iadS 1 (.t 47) (.t 48)), none, 1⟩, qk 50 49, qz 51 6, qz 52 7, ⟨(some 53), (.iadS 1 (.t 51) (.t 52)), none, 1⟩, qk 54 53, ⟨(some 55), (.eq true .sc (.t 50) (.t 54)), none, 0⟩]
 (.cond (.t 55)
 (qR [qo 4 (.mov (.c (.bool false)))]
 .ret)
 .skip)))
 (.reg [qm 45 7, qb 46 .add (.t 45) (.c (.int 1)), qm 7 46] []))))))
 (qR [qo 4 (.mov (.c (.bool true)))]
 .ret)))))
theorem o13 : FnOK Tryz.prog 13 N13 res13 c13 := mkF [] (pures ++ [3023]) Tryz.func13
-- (*sentinel/vault.Vault).Fail
def N14 : Nat := 10
def keep14 : List Nat := [0, 1]
def res14 : List RV := []
def c14 : CC :=
 (.reg [qm 4 0, qm 5 1, qo 6 (.mx (.t 5) (.c (.int (-1)))), qn 7 4, qf 8 0 7, qf 9 1 8, qs 9 6] [])
theorem o14 : FnOK Tryz.prog 14 N14 res14 c14 := mkF [] pures Tryz.func14
-- (*sentinel/sentinelref6.Vault).Fail
def N15 : Nat := 9
def keep15 : List Nat := [0, 1]
def res15 : List RV := []
def c15 : CC :=
 (.reg [qm 4 0, qm 5 1, qo 6 (.mx (.t 5) (.c (.int (-1)))), qn 7 4, qf 8 1 7, qs 8 6] [])
theorem o15 : FnOK Tryz.prog 15 N15 res15 c15 := mkF [] pures Tryz.func15
-- sentinel/sentinellaw6.Rec
def N16 : Nat := 17
def keep16 : List Nat := [0, 1, 4, 5]
def res16 : List RV := [(.c 4 (some 23))]
def c16 : CC :=
 (qR [qo 4 (.alloc qv)]
 (qR [qm 6 0, qm 7 1, qo 8 (.call (.c (.fn 42 [])) [(.t 6), (.c (.str [])), (.t 7)]), qo 5 (.alloc qv), ⟨none, (.store (some 23) (.t 5) (.t 8)), none, 2⟩]
 (qR [qc 9 36 [], qm 10 0, qb 11 .quo (.t 10) (.c (.int 23)), qc 12 12 [(.t 11), (.c (.int 10))], qi 13 1 9 12, ql 14 13, qf 15 1 5, qs 15 14]
 (qR [qo 16 (.load (some 23) (.t 5)), ⟨none, (.store (some 23) (.t 4) (.t 16)), none, 2⟩]
 .ret))))
theorem o16 : FnOK Tryz.prog 16 N16 res16 c16 := mkF [] pures Tryz.func16
-- (*sentinel/vault.Vault).Put
def N17 : Nat := 35
def keep17 : List Nat := [0, 1, 3, 4, 5, 6, 7, 12, 19, 25, 29]
def res17 : List RV := [(.t 4)]
def c17 : CC :=
 (qR [qo 3 (.box (.t 1)), qj 4 0]
 (.seq (qR [qm 8 0, qn 9 8, qf 10 0 9, qf 11 2 10, ql 12 11]
 (.cond (.t 12)
 (qR [qj 4 10]
 .ret)
 .skip))
 (qR [qo 14 (.load (some 23) (.t 3)), qc 15 43 [(.t 14)], qm 13 15, qe 16 13 0, qe 17 13 1, qm 5 16, qm 6 17]
 (.seq (qR [qm 18 6, qo 19 (.un .not (.t 18))]
 (.cond (.t 19)
 (qR [qj 4 11]
 .ret)
 .skip))
 (qR [qm 20 0, qf 21 1 3, ql 22 21, qc 23 44 [(.t 20), (.t 22)], qm 7 23]
 (.seq (qR [qm 24 7, qb 25 .lss (.t 24) (.c (.int 0))]
 (.cond (.t 25)
 (.reg [qm 26 0, qc 27 45 [(.t 26)], qm 7 27] [])
 .skip))
 (.seq (qR [qm 28 7, qb 29 .lss (.t 28) (.c (.int 0))]
 (.cond (.t 29)
 (qR [qj 4 7]
 .ret)
 .skip))
 (qR [qm 30 0, qm 31 7, qm 32 5, qc 33 33 [(.t 30), (.t 31), (.t 32)], qc 34 46 [(.t 33)], qm 4 34]
 .ret))))))))
theorem o17 : FnOK Tryz.prog 17 N17 res17 c17 := mkF [] pures Tryz.func17
-- (*sentinel/sentinelref6.Vault).Put
def N18 : Nat := 33
def keep18 : List Nat := [0, 1, 3, 4, 5, 6, 7, 11, 18, 24, 28]
def res18 : List RV := [(.t 4)]
def c18 : CC :=
 (qR [qo 3 (.box (.t 1)), qj 4 0]
 (.seq (qR [qm 8 0, qn 9 8, qf 10 2 9, ql 11 10]
 (.cond (.t 11)
 (qR [qj 4 10]
 .ret)
 .skip))
 (qR [qo 13 (.load (some 23) (.t 3)), qc 14 47 [(.t 13)], qm 12 14, qe 15 12 0, qe 16 12 1, qm 5 15, qm 6 16]
 (.seq (qR [qm 17 6, qo 18 (.un .not (.t 17))]
 (.cond (.t 18)
 (qR [qj 4 11]
 .ret)
 .skip))
 (qR [qm 19 0, qf 20 1 3, ql 21 20, qc 22 48 [(.t 19), (.t 21)], qm 7 22]
 (.seq (qR [qm 23 7, qb 24 .lss (.t 23) (.c (.int 0))]
 (.cond (.t 24)
 (.reg [qm 25 0, qc 26 49 [(.t 25)], qm 7 26] [])
 .skip))
 (.seq (qR [qm 27 7, qb 28 .lss (.t 27) (.c (.int 0))]
 (.cond (.t 28)
 (qR [qj 4 7]
 .ret)
 .skip))
 (qR [qm 29 0, qm 30 7, qm 31 5, qc 32 50 [(.t 29), (.t 30), (.t 31)], qm 4 32]
 .ret))))))))
theorem o18 : FnOK Tryz.prog 18 N18 res18 c18 := mkF [] pures Tryz.func18
-- (*sentinel/vault.Vault).Get
def N19 : Nat := 18
def keep19 : List Nat := [0, 1, 3, 4, 5, 7, 9, 11, 15]
def res19 : List RV := [(.c 4 (some 23)), (.c 5 none)]
def c19 : CC :=
 (qR [qo 3 (.box (.t 1)), qo 4 (.alloc qv), qo 5 (.alloc (.agg [(.bool false)]))]
 (.seq (qR [qm 8 0, qc 9 51 [(.t 8)]]
 (.block 0 (.rangeF (.t 9) [10, 11] (.reg [qo 7 (.alloc qv), ⟨none, (.store (some 23) (.t 7) (.t 11)), none, 2⟩] []) (.block 1 (qR [qf 12 1 7, ql 13 12, ql 14 3, qo 15 (.eq false .sc (.t 13) (.t 14))]
 (.cond (.t 15)
 (qR [qo 16 (.load (some 23) (.t 7)), ⟨none, (.store (some 23) (.t 4) (.t 16)), none, 2⟩, ⟨none, (.store none (.t 5) (.c (.bool true))), none, 2⟩]
 .ret)
 .skip))))))
 (qR [qo 17 (.build [(.int 0), (.str []), (.sl true 0 0 (.agg []) true), (.u32 0), (.u32 0), (.u32 0), (.u32 0), (.u32 0), (.u32 0), (.u32 0), (.u32 0), (.u32 0), (.u32 0), (.u32 0), (.u32 0), (.u32 0), (.u32 0), (.u32 0), (.u32 0), (.sl true 0 0 (.agg []) true), (.int 0), (.int 0), (.int 0)] []), ⟨none, (.store (some 23) (.t 4) (.t 17)), none, 2⟩, ⟨none, (.store none (.t 5) (.c (.bool false))), none, 2⟩]
 .ret)))
theorem o19 : FnOK Tryz.prog 19 N19 res19 c19 := mkF [] pures Tryz.func19
-- (*sentinel/vault.Vault).Names
def N20 : Nat := 19
def keep20 : List Nat := [0, 2, 3, 5, 7, 9]
def res20 : List RV := [(.t 2)]
def c20 : CC :=
 (qR [qo 2 (.mov (.c (.sl true 0 0 (.agg []) true)))]
 (qR [qo 3 (.alloc (.agg [(.sl true 0 0 (.agg []) true)]))]
 (.seq (qR [qm 6 0, qc 7 51 [(.t 6)]]
 (.block 0 (.rangeF (.t 7) [8, 9] (.reg [qo 5 (.alloc qv), ⟨none, (.store (some 23) (.t 5) (.t 9)), none, 2⟩] []) (.block 1 (.reg [ql 10 3, qf 11 1 5, ql 12 11, qo 13 (.bsl false .other 1 1 [(.str [])] [(0, (1, (.t 12)))]), qo 14 (.app true 1 16 (.t 10) (.t 13)), qs 3 14] [])))))
 (qR [ql 15 3, qc 16 52 [(.t 15)]]
 (qR [ql 17 3, qc 18 53 [(.t 17)], qm 2 18]
 .ret)))))
theorem o20 : FnOK Tryz.prog 20 N20 res20 c20 := mkF [] pures Tryz.func20
-- (*sentinel/vault.Vault).Boot
def N21 : Nat := 13
def keep21 : List Nat := [0, 2, 4]
def res21 : List RV := [(.t 2)]
def c21 : CC :=
 (qR [qj 2 0]
 (qR [qm 6 0, qc 7 54 [(.t 6), (.c (.int 8))], qm 5 7, qe 8 5 0, qe 9 5 1, qo 4 (.alloc (.agg [(.int 0), (.sl true 0 0 (.agg []) true)])), qm 3 8, ⟨none, (.store (some 2) (.t 4) (.t 9)), none, 2⟩]
 (qR [qf 10 1 4, ql 11 10, qc 12 55 [(.t 11)], qm 2 12]
 .ret)))
theorem o21 : FnOK Tryz.prog 21 N21 res21 c21 := mkF [] pures Tryz.func21
-- (*sentinel/vault.Vault).Gone
def N22 : Nat := 20
def keep22 : List Nat := [0, 1, 4, 5, 10, 15]
def res22 : List RV := [(.t 4)]
def c22 : CC :=
 (qR [qj 4 0]
 (.seq (qR [qm 6 0, qn 7 6, qf 8 0 7, qf 9 2 8, ql 10 9]
 (.cond (.t 10)
 (qR [qj 4 10]
 .ret)
 .skip))
 (qR [qm 11 0, qm 12 1, qc 13 44 [(.t 11), (.t 12)], qm 5 13]
 (.seq (qR [qm 14 5, qb 15 .lss (.t 14) (.c (.int 0))]
 (.cond (.t 15)
 (qR [qj 4 3]
 .ret)
 .skip))
 (qR [qm 16 0, qm 17 5, qo 18 (.call (.c (.fn 33 [])) [(.t 16), (.t 17), (.c (.sl true 0 0 (.agg []) true))]), qc 19 46 [(.t 18)], qm 4 19]
 .ret)))))
theorem o22 : FnOK Tryz.prog 22 N22 res22 c22 := mkF [] pures Tryz.func22
-- (*sentinel/vault.Vault).Cells
def N23 : Nat := 38
def keep23 : List Nat := [0, 2, 3, 5, 17, 18, 19, 20]
def res23 : List RV := [(.t 2)]
def c23 : CC :=
 (qR [qo 2 (.mov (.c (.sl true 0 0 (.agg []) true)))]
 (qR [qm 6 0, qn 7 6, qf 8 0 7, qf 9 0 8, ql 10 9, qg 11 10, qo 12 (.mksl .other 3 56 [(.sl true 0 0 (.agg []) true), (.sl true 0 0 (.agg []) true), (.bool false)] (.c (.int 0)) (.t 11)), qm 3 12]
 (.seq (qR [qm 13 0, qn 14 13, qf 15 0 14, qf 16 0 15, ql 17 16, qg 18 17, qj 19 0]
 (.block 0 (.loop (qR [qb 20 .lss (.t 19) (.t 18)]
 (.seq (.cond (.t 20)
 .skip
 (.exit 0))
 (.seq (.block 1 (qR [qi 21 3 17 19, qo 22 (.load (some 3) (.t 21)), qo 5 (.alloc (.agg [(.sl true 0 0 (.agg []) true), (.sl true 0 0 (.agg []) true), (.bool false)])), ⟨none, (.store (some 3) (.t 5) (.t 22)), none, 2⟩]
 (.reg [qz 23 3, ⟨(some 24), (.fad 0 (.t 5)), none, 0⟩, qk 25 24, ⟨(some 26), (.call (.c (.fn 56 [])) [(.t 25)]), none, 0⟩, ⟨(some 27), (.fad 1 (.t 5)), none, 0⟩, qk 28 27, ⟨(some 29), (.call (.c (.fn 56 [])) [(.t 28)]), none, 0⟩, ⟨(some 30), (.fad 2 (.t 5)), none, 0⟩, qk 31 30, ⟨(some 32), (.build [(.sl true 0 0 (.agg []) true), (.sl true 0 0 (.agg []) true), (.bool false)] [(0, (1, (.t 26))), (1, (1, (.t 29))), (2, (1, (.t 31)))]), none, 0⟩, ⟨(some 33), (.bsl false .other 3 1 [(.sl true 0 0 (.agg []) true), (.sl true 0 0 (.agg []) true), (.bool false)] [(0, (3, (.t 32)))]), none, 0⟩, qo 34 (.app true 3 56 (.t 23) (.t 33)), qz 3 34] [])))
 (.reg [qb 35 .add (.t 19) (.c (.int 1)), qm 19 35] [])))))))
 (qR [qm 36 3, qc 37 57 [(.t 36)], qm 2 37]
 .ret))))
theorem o23 : FnOK Tryz.prog 23 N23 res23 c23 := mkF [] pures Tryz.func23
-- sentinel/sentinellaw6.clash
def N24 : Nat := 122
def keep24 : List Nat := [0, 1, 4, 5, 6, 7, 8, 9, 13, 21, 25, 56, 100, 121]
def res24 : List RV := [(.t 4)]
def c24 : CC :=
 (qR [qo 4 (.mov (.c (.bool false)))]
 (qR [qj 5 0]
 (.seq (qR [qj 6 0]
 (.block 0 (.loop (.seq (qR [qm 10 6, qm 11 0, qg 12 11, qb 13 .lss (.t 10) (.t 12)]
 (.cond (.t 13)
 .skip
 (.exit 0)))
 (.seq (.block 1 (.seq (qR [qm 16 0, qm 17 6, qi 18 3 16 17, qf 19 2 18, ql 20 19, qo 21 (.un .not (.t 20))]
 (.cond (.t 21)
 (.exit 1)
 .skip))
 (qR [qj 7 0]
 (.seq (qR [qm 22 5, qm 23 1, qg 24 23, qb 25 .lss (.t 22) (.t 24)]
 (.cond (.t 25)
 (.reg [qz 26 1, qz 27 5, ⟨(some 28), (.iadS 1 (.t 26) (.t 27)), none, 1⟩, qk 29 28, ⟨(some 30), (.mx (.t 29) (.c (.int 0))), none, 0⟩, qz 31 0, qz 32 6, ⟨(some 33), (.iadS 3 (.t 31) (.t 32)), none, 1⟩, ⟨(some 34), (.fad 1 (.t 33)), none, 0⟩, qk 35 34, ⟨(some 36), (.len false (.t 35)), none, 0⟩, ⟨(some 37), (.mn (.t 30) (.t 36)), none, 0⟩, qz 7 37] [])
 .skip))
 (qR [qm 38 5, qb 39 .add (.t 38) (.c (.int 1)), qm 5 39]
 (qR [qo 40 (.bsl false .u8 1 0 [(.u8 0)] []), qm 41 0, qm 42 6, qi 43 3 41 42, qf 44 1 43, ql 45 44, qm 46 7, qo 47 (.slcS 1 (.t 45) none (some (.t 46)) none), qo 48 (.app true 1 1 (.t 40) (.t 47)), qm 8 48]
 (.seq (qR [qm 49 7, qm 50 0, qm 51 6, qi 52 3 50 51, qf 53 0 52, ql 54 53, qg 55 54, qb 56 .lss (.t 49) (.t 55)]
 (.cond (.t 56)
 (.reg [qm 57 8, qm 58 0, qm 59 6, qi 60 3 58 59, qf 61 0 60, ql 62 61, qm 63 7, qo 64 (.slcS 1 (.t 62) (some (.t 63)) none none), qo 65 (.app true 1 1 (.t 57) (.t 64)), qm 8 65] [])
 .skip))
 (.seq (qR [qz 66 8, ⟨(some 67), (.conv .bstr (.t 66)), none, 1⟩, qz 68 0, qz 69 6, ⟨(some 70), (.iadS 3 (.t 68) (.t 69)), none, 1⟩, ⟨(some 71), (.fad 1 (.t 70)), none, 0⟩, qk 72 71, ⟨(some 73), (.conv .bstr (.t 72)), none, 1⟩, ⟨(some 74), (.eq false .sc (.t 67) (.t 73)), none, 0⟩, qz 75 74, ⟨(some 76), (.mov (.t 8)), (some (75, false)), 0⟩, ⟨(some 77), (.conv .bstr (.t 76)), (some (75, false)), 1⟩, ⟨(some 78), (.mov (.t 0)), (some (75, false)), 0⟩, ⟨(some 79), (.mov (.t 6)), (some (75, false)), 0⟩, ⟨(some 80), (.iadS 3 (.t 78) (.t 79)), (some (75, false)), 1⟩, ⟨(some 81), (.fad 0 (.t 80)), (some (75, false)), 0⟩, ⟨(some 82), (.load none (.t 81)), (some (75, false)), 1⟩, ⟨(some 83), (.conv .bstr (.t 82)), (some (75, false)), 1⟩, ⟨(some 84), (.eq false .sc (.t 77) (.t 83)), (some (75, false)), 0⟩, ⟨(some 85), (.pick (.t 75) (.c (.bool true)) (.t 84)), none, 0⟩, qz 86 85, ⟨(some 87), (.mov (.t 8)), (some (86, false)), 0⟩, ⟨(some 88), (.len false (.t 87)), (some (86, false)), 0⟩, ⟨(some 89), (.bin .lss (.t 88) (.c (.int 25))), (some (86, false)), 0⟩, ⟨(some 90), (.pick (.t 86) (.c (.bool true)) (.t 89)), none, 0⟩, qz 91 90, ⟨(some 92), (.mov (.t 8)), (some (91, false)), 0⟩, ⟨(some 93), (.len false (.t 92)), (some (91, false)), 0⟩, ⟨(some 94), (.mov (.t 8)), (some (91, false)), 0⟩, ⟨(some 95), (.iadS 1 (.t 94) (.c (.int 8))), (some (91, false)), 1⟩, ⟨(some 96), (.load none (.t 95)), (some (91, false)), 1⟩, ⟨(some 97), (.conv .u8i (.t 96)), (some (91, false)), 0⟩, ⟨(some 98), (.bin .add (.c (.int 25)) (.t 97)), (some (91, false)), 0⟩, ⟨(some 99), (.eq true .sc (.t 93) (.t 98)), (some (91, false)), 0⟩, ⟨(some 100), (.pick (.t 91) (.c (.bool true)) (.t 99)), none, 0⟩]
 (.cond (.t 100)
 (.exit 1)
 .skip))
 (qR [qm 101 8, qm 102 8, qg 103 102, qb 104 .sub (.t 103) (.c (.int 16)), qo 105 (.slcS 1 (.t 101) none (some (.t 104)) none), qm 9 105]
 (.seq (.reg [qo 106 (.bsl true .u8 1 4 [(.u8 0)] [(0, (1, (.c (.u8 99)))), (1, (1, (.c (.u8 101)))), (2, (1, (.c (.u8 108)))), (3, (1, (.c (.u8 108))))]), ⟨(some 107), (.conv .mark (.t 106)), none, 1⟩, qz 108 6, ⟨(some 109), (.call (.c (.fn 30 [])) [(.t 108)]), none, 0⟩, qz 110 9, ⟨(some 111), (.bsl false .other 1 3 [(.sl true 0 0 (.agg []) true)] [(0, (1, (.t 107))), (1, (1, (.t 109))), (2, (1, (.t 110)))]), none, 0⟩, ⟨(some 112), (.call (.c (.fn 29 [])) [(.t 111)]), none, 3⟩, ⟨(some 113), (.call (.c (.fn 31 [])) [(.t 112)]), none, 0⟩, ⟨(some 114), (.conv .bstr (.t 113)), none, 1⟩, qz 115 8, qz 116 8, ⟨(some 117), (.len false (.t 116)), none, 0⟩, ⟨(some 118), (.bin .sub (.t 117) (.c (.int 16))), none, 0⟩, ⟨(some 119), (.slcS 1 (.t 115) (some (.t 118)) none none), none, 0⟩, ⟨(some 120), (.conv .bstr (.t 119)), none, 1⟩, ⟨(some 121), (.eq false .sc (.t 114) (.t 120)), none, 0⟩]
 [(119, 106)])
 (.cond (.t 121)
 (qR [qo 4 (.mov (.c (.bool true)))]
 .ret)
 .skip)))))))))))
 (.reg [qm 14 6, qb 15 .add (.t 14) (.c (.int 1)), qm 6 15] []))))))
 (qR [qo 4 (.mov (.c (.bool false)))]
 .ret))))
theorem o24 : FnOK Tryz.prog 24 N24 res24 c24 := mkF [106] (pures ++ [3029]) Tryz.func24
-- (*sentinel/vault.Vault).Again
def N25 : Nat := 81
def keep25 : List Nat := [0, 1, 4, 5, 6, 12, 13, 14, 27, 30]
def res25 : List RV := []
def c25 : CC :=
 (.seq (qR [qm 7 0, qn 8 7, qf 9 0 8, qf 10 0 9, ql 11 10, qg 12 11, qj 13 0]
 (.block 0 (.loop (qR [qb 14 .lss (.t 13) (.t 12)]
 (.seq (.cond (.t 14)
 .skip
 (.exit 0))
 (.seq (.block 1 (qR [qm 15 13, qm 4 15]
 (qR [qm 16 0, qn 17 16, qf 18 0 17, qf 19 0 18, ql 20 19, qm 21 4, qi 22 3 20 21, qm 5 22]
 (.seq (qR [qm 23 5, qn 24 23, qf 25 2 24, ql 26 25, qo 27 (.un .not (.t 26))]
 (.cond (.t 27)
 (.exit 1)
 .skip))
 (qR [qj 6 0]
 (.seq (qR [qm 28 1, qg 29 28, qb 30 .gtr (.t 29) (.c (.int 0))]
 (.cond (.t 30)
 (qR [qz 31 1, ⟨(some 32), (.iadS 1 (.t 31) (.c (.int 0))), none, 1⟩, qk 33 32, qz 34 5, ⟨(some 35), (.nilck (.t 34)), none, 0⟩, ⟨(some 36), (.fad 1 (.t 35)), none, 0⟩, qk 37 36, ⟨(some 38), (.len false (.t 37)), none, 0⟩, ⟨(some 39), (.mn (.t 33) (.t 38)), none, 0⟩, ⟨(some 40), (.mx (.c (.int 0)) (.t 39)), none, 0⟩, qz 6 40]
 (.reg [qm 41 1, qo 42 (.slcS 1 (.t 41) (some (.c (.int 1))) none none), qm 1 42] []))
 .skip))
 (.reg [qz 43 5, qz 44 5, ⟨(some 45), (.nilck (.t 44)), none, 0⟩, ⟨(some 46), (.fad 1 (.t 45)), none, 0⟩, qk 47 46, qz 48 6, ⟨(some 49), (.slcS 1 (.t 47) none (some (.t 48)) none), none, 0⟩, qz 50 5, ⟨(some 51), (.nilck (.t 50)), none, 0⟩, ⟨(some 52), (.fad 0 (.t 51)), none, 0⟩, qk 53 52, qz 54 6, qz 55 5, ⟨(some 56), (.nilck (.t 55)), none, 0⟩, ⟨(some 57), (.fad 0 (.t 56)), none, 0⟩, qk 58 57, ⟨(some 59), (.len false (.t 58)), none, 0⟩, ⟨(some 60), (.mn (.t 54) (.t 59)), none, 0⟩, ⟨(some 61), (.slcS 1 (.t 53) (some (.t 60)) none none), none, 0⟩, ⟨(some 62), (.bsl false .other 1 2 [(.sl true 0 0 (.agg []) true)] [(0, (1, (.t 49))), (1, (1, (.t 61)))]), none, 0⟩, qc 63 58 [(.t 62)], ⟨(some 64), (.build [(.sl true 0 0 (.agg []) true), (.sl true 0 0 (.agg []) true), (.bool false)] [(0, (1, (.t 63)))]), none, 0⟩, ⟨(some 65), (.nilck (.t 43)), none, 0⟩, ⟨none, (.store (some 3) (.t 65) (.t 64)), none, 2⟩] [])))))))
 (.reg [qb 66 .add (.t 13) (.c (.int 1)), qm 13 66] [])))))))
 (qR [qm 67 0, qm 68 0, qn 69 67, qf 70 0 69, qf 71 2 70, ⟨none, (.store none (.t 71) (.c (.bool false))), none, 2⟩, qn 72 68, qf 73 0 72, qf 74 1 73, ⟨none, (.store none (.t 74) (.c (.int (-1)))), none, 2⟩]
 (.reg [qm 75 0, qm 76 0, qc 77 21 [(.t 76)], qb 78 .add (.t 77) (.c (.int 1)), qc 79 34 [(.t 78)], qc 80 33 [(.t 75), (.c (.int 8)), (.t 79)]] [])))
theorem o25 : FnOK Tryz.prog 25 N25 res25 c25 := mkF [] pures Tryz.func25
-- sentinel/sentinelref5.Records
def N26 : Nat := 70
def keep26 : List Nat := [0, 1, 2, 3, 4]
def res26 : List RV := [(.t 4)]
def c26 : CC :=
 (qR [qo 2 (.box (.t 0)), qo 3 (.box (.t 1)), qo 4 (.mov (.c (.bool false)))]
 (qR [qf 5 0 2, ql 6 5, qf 7 0 3, ql 8 7, qo 9 (.eq false .sc (.t 6) (.t 8)), qm 10 9, ⟨(some 11), (.fad 1 (.t 2)), (some (10, true)), 2⟩, ⟨(some 12), (.load none (.t 11)), (some (10, true)), 2⟩, ⟨(some 13), (.fad 1 (.t 3)), (some (10, true)), 2⟩, ⟨(some 14), (.load none (.t 13)), (some (10, true)), 2⟩, ⟨(some 15), (.eq false .sc (.t 12) (.t 14)), (some (10, true)), 2⟩, qo 16 (.pick (.t 10) (.t 15) (.c (.bool false))), qm 17 16, ⟨(some 18), (.fad 2 (.t 2)), (some (17, true)), 2⟩, ⟨(some 19), (.load none (.t 18)), (some (17, true)), 2⟩, ⟨(some 20), (.conv .bstr (.t 19)), (some (17, true)), 2⟩, ⟨(some 21), (.fad 2 (.t 3)), (some (17, true)), 2⟩, ⟨(some 22), (.load none (.t 21)), (some (17, true)), 2⟩, ⟨(some 23), (.conv .bstr (.t 22)), (some (17, true)), 2⟩, ⟨(some 24), (.eq false .sc (.t 20) (.t 23)), (some (17, true)), 2⟩, qo 25 (.pick (.t 17) (.t 24) (.c (.bool false))), qm 26 25, ⟨(some 27), (.fad 3 (.t 2)), (some (26, true)), 2⟩, ⟨(some 28), (.load (some 8) (.t 27)), (some (26, true)), 2⟩, ⟨(some 29), (.fad 3 (.t 3)), (some (26, true)), 2⟩, ⟨(some 30), (.load (some 8) (.t 29)), (some (26, true)), 2⟩, ⟨(some 31), (.eq false (.arr 8) (.t 28) (.t 30)), (some (26, true)), 2⟩, qo 32 (.pick (.t 26) (.t 31) (.c (.bool false))), qm 33 32, ⟨(some 34), (.fad 11 (.t 2)), (some (33, true)), 2⟩, ⟨(some 35), (.load (some 8) (.t 34)), (some (33, true)), 2⟩, ⟨(some 36), (.fad 11 (.t 3)), (some (33, true)), 2⟩, ⟨(some 37), (.load (some 8) (.t 36)), (some (33, true)), 2⟩, ⟨(some 38), (.eq false (.arr 8) (.t 35) (.t 37)), (some (33, true)), 2⟩, qo 39 (.pick (.t 33) (.t 38) (.c (.bool false))), qm 40 39, ⟨(some 41), (.fad 19 (.t 2)), (some (40, true)), 2⟩, ⟨(some 42), (.load none (.t 41)), (some (40, true)), 2⟩, ⟨(some 43), (.conv .bstr (.t 42)), (some (40, true)), 2⟩, ⟨(some 44), (.fad 19 (.t 3)), (some (40, true)), 2⟩, ⟨(some 45), (.load none (.t 44)), (some (40, true)), 2⟩, ⟨(some 46), (.conv .bstr (.t 45)), (some (40, true)), 2⟩, ⟨(some 47), (.eq false .sc (.t 43) (.t 46)), (some (40, true)), 2⟩, qo 48 (.pick (.t 40) (.t 47) (.c (.bool false))), qm 49 48, ⟨(some 50), (.fad 20 (.t 2)), (some (49, true)), 2⟩, ⟨(some 51), (.load none (.t 50)), (some (49, true)), 2⟩, ⟨(some 52), (.fad 20 (.t 3)), (some (49, true)), 2⟩, ⟨(some 53), (.load none (.t 52)), (some (49, true)), 2⟩, ⟨(some 54), (.eq false .sc (.t 51) (.t 53)), (some (49, true)), 2⟩, qo 55 (.pick (.t 49) (.t 54) (.c (.bool false))), qm 56 55, ⟨(some 57), (.fad 21 (.t 2)), (some (56, true)), 2⟩, ⟨(some 58), (.load none (.t 57)), (some (56, true)), 2⟩, ⟨(some 59), (.fad 21 (.t 3)), (some (56, true)), 2⟩, ⟨(some 60), (.load none (.t 59)), (some (56, true)), 2⟩, ⟨(some 61), (.eq false .sc (.t 58) (.t 60)), (some (56, true)), 2⟩, qo 62 (.pick (.t 56) (.t 61) (.c (.bool false))), qm 63 62, ⟨(some 64), (.fad 22 (.t 2)), (some (63, true)), 2⟩, ⟨(some 65), (.load none (.t 64)), (some (63, true)), 2⟩, ⟨(some 66), (.fad 22 (.t 3)), (some (63, true)), 2⟩, ⟨(some 67), (.load none (.t 66)), (some (63, true)), 2⟩, ⟨(some 68), (.eq false .sc (.t 65) (.t 67)), (some (63, true)), 2⟩, qo 69 (.pick (.t 63) (.t 68) (.c (.bool false))), qm 4 69]
 .ret))
theorem o26 : FnOK Tryz.prog 26 N26 res26 c26 := mkF [] pures Tryz.func26
-- (*sentinel/vault.Vault).Dead
def N27 : Nat := 8
def keep27 : List Nat := [0, 2]
def res27 : List RV := [(.t 2)]
def c27 : CC :=
 (qR [qo 2 (.mov (.c (.bool false)))]
 (qR [qm 3 0, qn 4 3, qf 5 0 4, qf 6 2 5, ql 7 6, qm 2 7]
 .ret))
theorem o27 : FnOK Tryz.prog 27 N27 res27 c27 := mkF [] pures Tryz.func27
-- (*sentinel/sentinelref6.Vault).Get
def N28 : Nat := 27
def keep28 : List Nat := [0, 1, 4, 5, 6, 9, 14]
def res28 : List RV := [(.c 4 (some 23)), (.t 5)]
def c28 : CC :=
 (qR [qo 4 (.alloc qv), qo 5 (.mov (.c (.bool false)))]
 (qR [qm 10 0, qm 11 1, qc 12 48 [(.t 10), (.t 11)], qm 6 12]
 (.seq (qR [qm 13 6, qb 14 .lss (.t 13) (.c (.int 0))]
 (.cond (.t 14)
 (qR [qo 15 (.build [(.int 0), (.str []), (.sl true 0 0 (.agg []) true), (.u32 0), (.u32 0), (.u32 0), (.u32 0), (.u32 0), (.u32 0), (.u32 0), (.u32 0), (.u32 0), (.u32 0), (.u32 0), (.u32 0), (.u32 0), (.u32 0), (.u32 0), (.u32 0), (.sl true 0 0 (.agg []) true), (.int 0), (.int 0), (.int 0)] []), ⟨none, (.store (some 23) (.t 4) (.t 15)), none, 2⟩, qo 5 (.mov (.c (.bool false)))]
 .ret)
 .skip))
 (qR [qm 17 0, qm 18 6, qc 19 59 [(.t 17), (.t 18)], qm 16 19, qe 20 16 0, qe 21 16 1, qe 22 16 2, qm 7 20, qm 8 21, qm 9 22]
 (qR [qm 23 9, qc 24 60 [(.t 23)], qe 25 24 0, qe 26 24 1, ⟨none, (.store (some 23) (.t 4) (.t 25)), none, 2⟩, qm 5 26]
 .ret)))))
theorem o28 : FnOK Tryz.prog 28 N28 res28 c28 := mkF [] pures Tryz.func28
-- sentinel/sentinelref3.Of
def N29 : Nat := 6
def keep29 : List Nat := [0, 2]
def res29 : List RV := [(.c 2 (some 16))]
def c29 : CC :=
 (qR [qo 2 (.alloc (.agg [(.u8 0), (.u8 0), (.u8 0), (.u8 0), (.u8 0), (.u8 0), (.u8 0), (.u8 0), (.u8 0), (.u8 0), (.u8 0), (.u8 0), (.u8 0), (.u8 0), (.u8 0), (.u8 0)]))]
 (qR [qm 3 0, qc 4 62 [(.t 3)], qo 5 (.call (.c (.fn 61 [])) [(.c (.sl true 0 0 (.agg []) true)), (.t 4)]), ⟨none, (.store (some 16) (.t 2) (.t 5)), none, 2⟩]
 .ret))
theorem o29 : FnOK Tryz.prog 29 N29 res29 c29 := mkF [] pures Tryz.func29
-- sentinel/sentinelref3.Eight
def N30 : Nat := 20
def keep30 : List Nat := [0, 2, 3, 4, 6]
def res30 : List RV := [(.t 2)]
def c30 : CC :=
 (qR [qo 2 (.mov (.c (.sl true 0 0 (.agg []) true)))]
 (qR [qo 3 (.mov (.c (.sl true 0 0 (.agg []) true)))]
 (.seq (qR [qj 4 0]
 (.block 0 (.loop (.seq (qR [qm 5 4, qb 6 .lss (.t 5) (.c (.int 8))]
 (.cond (.t 6)
 .skip
 (.exit 0)))
 (.seq (.block 1 (.reg [qm 9 3, qm 10 0, qm 11 4, qb 12 .mul (.c (.int 8)) (.t 11), qb 13 .sub (.c (.int 56)) (.t 12), qo 14 (.conv .iu64 (.t 13)), qb 15 .shr (.t 10) (.t 14), qo 16 (.conv .iu8 (.t 15)), qo 17 (.bsl false .u8 1 1 [(.u8 0)] [(0, (1, (.t 16)))]), qo 18 (.app true 1 1 (.t 9) (.t 17)), qm 3 18] []))
 (.reg [qm 7 4, qb 8 .add (.t 7) (.c (.int 1)), qm 4 8] []))))))
 (qR [qm 19 3, qm 2 19]
 .ret))))
theorem o30 : FnOK Tryz.prog 30 N30 res30 c30 := mkF [] pures Tryz.func30
-- sentinel/sentinelref3.Bytes
def N31 : Nat := 16
def keep31 : List Nat := [0, 1, 2, 3, 4, 6]
def res31 : List RV := [(.t 2)]
def c31 : CC :=
 (qR [qo 1 (.box (.t 0)), qo 2 (.mov (.c (.sl true 0 0 (.agg []) true)))]
 (qR [qo 3 (.mov (.c (.sl true 0 0 (.agg []) true)))]
 (.seq (qR [qj 4 0]
 (.block 0 (.loop (.seq (qR [qm 5 4, qb 6 .lss (.t 5) (.c (.int 16))]
 (.cond (.t 6)
 .skip
 (.exit 0)))
 (.seq (.block 1 (.reg [qm 9 3, qm 10 4, qo 11 (.iadA 16 1 (.t 1) (.t 10)), ql 12 11, qo 13 (.bsl false .u8 1 1 [(.u8 0)] [(0, (1, (.t 12)))]), qo 14 (.app true 1 1 (.t 9) (.t 13)), qm 3 14] []))
 (.reg [qm 7 4, qb 8 .add (.t 7) (.c (.int 1)), qm 4 8] []))))))
 (qR [qm 15 3, qm 2 15]
 .ret))))
theorem o31 : FnOK Tryz.prog 31 N31 res31 c31 := mkF [] pures Tryz.func31
-- sentinel/sentinelref6.Cells
def N32 : Nat := 58
def keep32 : List Nat := [0, 1, 4, 5, 10, 14, 57]
def res32 : List RV := [(.t 4)]
def c32 : CC :=
 (qR [qo 4 (.mov (.c (.bool false)))]
 (.seq (qR [qm 6 0, qg 7 6, qm 8 1, qg 9 8, qo 10 (.eq true .sc (.t 7) (.t 9))]
 (.cond (.t 10)
 (qR [qo 4 (.mov (.c (.bool false)))]
 .ret)
 .skip))
 (.seq (qR [qj 5 0]
 (.block 0 (.loop (.seq (qR [qm 11 5, qm 12 0, qg 13 12, qb 14 .lss (.t 11) (.t 13)]
 (.cond (.t 14)
 .skip
 (.exit 0)))
 (.seq (.block 1 (qR [qz 17 0, qz 18 5, ⟨(some 19), (.iadS 3 (.t 17) (.t 18)), none, 1⟩, ⟨(some 20), (.fad 2 (.t 19)), none, 0⟩, qk 21 20, qz 22 1, qz 23 5, ⟨(some 24), (.iadS 3 (.t 22) (.t 23)), none, 1⟩, ⟨(some 25), (.fad 2 (.t 24)), none, 0⟩, qk 26 25, ⟨(some 27), (.eq true .bool (.t 21) (.t 26)), none, 0⟩, qz 28 27, ⟨(some 29), (.mov (.t 0)), (some (28, false)), 0⟩, ⟨(some 30), (.mov (.t 5)), (some (28, false)), 0⟩, ⟨(some 31), (.iadS 3 (.t 29) (.t 30)), (some (28, false)), 1⟩, ⟨(some 32), (.fad 0 (.t 31)), (some (28, false)), 0⟩, ⟨(some 33), (.load none (.t 32)), (some (28, false)), 1⟩, ⟨(some 34), (.conv .bstr (.t 33)), (some (28, false)), 1⟩, ⟨(some 35), (.mov (.t 1)), (some (28, false)), 0⟩, ⟨(some 36), (.mov (.t 5)), (some (28, false)), 0⟩, ⟨(some 37), (.iadS 3 (.t 35) (.t 36)), (some (28, false)), 1⟩, ⟨(some 38), (.fad 0 (.t 37)), (some (28, false)), 0⟩, ⟨(some 39), (.load none (.t 38)), (some (28, false)), 1⟩, ⟨(some 40), (.conv .bstr (.t 39)), (some (28, false)), 1⟩, ⟨(some 41), (.eq true .sc (.t 34) (.t 40)), (some (28, false)), 0⟩, ⟨(some 42), (.pick (.t 28) (.c (.bool true)) (.t 41)), none, 0⟩, qz 43 42, ⟨(some 44), (.mov (.t 0)), (some (43, false)), 0⟩, ⟨(some 45), (.mov (.t 5)), (some (43, false)), 0⟩, ⟨(some 46), (.iadS 3 (.t 44) (.t 45)), (some (43, false)), 1⟩, ⟨(some 47), (.fad 1 (.t 46)), (some (43, false)), 0⟩, ⟨(some 48), (.load none (.t 47)), (some (43, false)), 1⟩, ⟨(some 49), (.conv .bstr (.t 48)), (some (43, false)), 1⟩, ⟨(some 50), (.mov (.t 1)), (some (43, false)), 0⟩, ⟨(some 51), (.mov (.t 5)), (some (43, false)), 0⟩, ⟨(some 52), (.iadS 3 (.t 50) (.t 51)), (some (43, false)), 1⟩, ⟨(some 53), (.fad 1 (.t 52)), (some (43, false)), 0⟩, ⟨(some 54), (.load none (.t 53)), (some (43, false)), 1⟩, ⟨(some 55), (.conv .bstr (.t 54)), (some (43, false)), 1⟩, ⟨(some 56), (.eq true .sc (.t 49) (.t 55)), (some (43, false)), 0⟩, ⟨(some 57), (.pick (.t 43) (.c (.bool true)) (.t 56)), none, 0⟩]
 (.cond (.t 57)
 (qR [qo 4 (.mov (.c (.bool false)))]
 .ret)
 .skip)))
 (.reg [qm 15 5, qb 16 .add (.t 15) (.c (.int 1)), qm 5 16] []))))))
 (qR [qo 4 (.mov (.c (.bool true)))]
 .ret))))
theorem o32 : FnOK Tryz.prog 32 N32 res32 c32 := mkF [] pures Tryz.func32
-- (*sentinel/vault.Vault).write
def N33 : Nat := 47
def keep33 : List Nat := [0, 1, 2, 6, 7, 8, 9, 10, 24]
def res33 : List RV := [(.t 6)]
def c33 : CC :=
 (qR [qo 6 (.mov (.c (.bool false)))]
 (qR [qm 12 0, qm 13 1, qc 14 54 [(.t 12), (.t 13)], qm 11 14, qe 15 11 0, qe 16 11 1, qo 8 (.alloc (.agg [(.int 0), (.sl true 0 0 (.agg []) true)])), qm 7 15, ⟨none, (.store (some 2) (.t 8) (.t 16)), none, 2⟩]
 (qR [qm 17 1, qb 18 .mul (.c (.int 2)) (.t 17), qb 19 .add (.t 18) (.c (.int 1)), qm 20 7, qo 21 (.mx (.t 20) (.c (.int 0))), qb 22 .sub (.t 19) (.t 21), qm 9 22]
 (.seq (qR [qm 23 7, qb 24 .lss (.t 23) (.c (.int 0))]
 (.cond (.t 24)
 (.reg [qm 25 1, qb 26 .mul (.c (.int 2)) (.t 25), qm 9 26] [])
 .skip))
 (qR [qm 27 9, qf 28 0 8, ql 29 28, qb 30 .add (.t 29) (.c (.int 1)), qm 31 2, qo 32 (.build [(.int 0), (.sl true 0 0 (.agg []) true)] [(0, (1, (.t 30))), (1, (1, (.t 31)))]), qc 33 63 [(.t 27), (.t 32)], qo 10 (.alloc (.agg [(.sl true 0 0 (.agg []) true)])), qs 10 33]
 (qR [qm 34 0, qn 35 34, qf 36 0 35, qm 37 9, qo 38 (.mkf 65 [(.t 10)]), qc 39 64 [(.t 36), (.t 37), (.t 38)], qm 40 39, ⟨(some 41), (.mov (.t 0)), (some (40, true)), 2⟩, ⟨(some 42), (.nilck (.t 41)), (some (40, true)), 2⟩, ⟨(some 43), (.fad 0 (.t 42)), (some (40, true)), 2⟩, ⟨(some 44), (.mov (.t 9)), (some (40, true)), 2⟩, ⟨(some 45), (.call (.c (.fn 64 [])) [(.t 43), (.t 44), (.c (.fn 66 []))]), (some (40, true)), 2⟩, qo 46 (.pick (.t 40) (.t 45) (.c (.bool false))), qm 6 46]
 .ret))))))
theorem o33 : FnOK Tryz.prog 33 N33 res33 c33 := mkF [] pures Tryz.func33
-- sentinel/vault.eight
def N34 : Nat := 7
def keep34 : List Nat := [0, 2]
def res34 : List RV := [(.t 2)]
def c34 : CC :=
 (qR [qo 2 (.mov (.c (.sl true 0 0 (.agg []) true)))]
 (qR [qm 3 0, qc 4 68 [(.t 3)], qc 5 67 [(.t 4)], qo 6 (.slcS 1 (.t 5) (some (.c (.int 24))) none none), qm 2 6]
 .ret))
theorem o34 : FnOK Tryz.prog 34 N34 res34 c34 := mkF [] pures Tryz.func34
-- (*sentinel/sentinelref6.Vault).era
def N35 : Nat := 8
def keep35 : List Nat := [0]
def res35 : List RV := []
def c35 : CC :=
 (.reg [qm 2 0, qm 3 0, qc 4 40 [(.t 3)], qb 5 .add (.t 4) (.c (.int 1)), qc 6 30 [(.t 5)], qc 7 50 [(.t 2), (.c (.int 8)), (.t 6)]] [])
theorem o35 : FnOK Tryz.prog 35 N35 res35 c35 := mkF [] pures Tryz.func35
-- sentinel/sentinellaw6.names
def N36 : Nat := 2
def keep36 : List Nat := [0]
def res36 : List RV := [(.t 0)]
def c36 : CC :=
 (qR [qo 0 (.mov (.c (.sl true 0 0 (.agg []) true)))]
 (qR [qo 1 (.bsl false .other 1 10 [(.str [])] [(0, (1, (.c (.str [97])))), (1, (1, (.c (.str [98])))), (2, (1, (.c (.str [99, 99])))), (3, (1, (.c (.str [100, 33])))), (4, (1, (.c (.str [101])))), (5, (1, (.c (.str [102])))), (6, (1, (.c (.str [103])))), (7, (1, (.c (.str [104])))), (8, (1, (.c (.str [105])))), (9, (1, (.c (.str [106, 106]))))]), qm 0 1]
 .ret))
theorem o36 : FnOK Tryz.prog 36 N36 res36 c36 := mkF [] pures Tryz.func36
-- (*sentinel/sentinelref6.Vault).Gone
def N37 : Nat := 18
def keep37 : List Nat := [0, 1, 4, 5, 9, 14]
def res37 : List RV := [(.t 4)]
def c37 : CC :=
 (qR [qj 4 0]
 (.seq (qR [qm 6 0, qn 7 6, qf 8 2 7, ql 9 8]
 (.cond (.t 9)
 (qR [qj 4 10]
 .ret)
 .skip))
 (qR [qm 10 0, qm 11 1, qc 12 48 [(.t 10), (.t 11)], qm 5 12]
 (.seq (qR [qm 13 5, qb 14 .lss (.t 13) (.c (.int 0))]
 (.cond (.t 14)
 (qR [qj 4 3]
 .ret)
 .skip))
 (qR [qm 15 0, qm 16 5, qo 17 (.call (.c (.fn 50 [])) [(.t 15), (.t 16), (.c (.sl true 0 0 (.agg []) true))]), qm 4 17]
 .ret)))))
theorem o37 : FnOK Tryz.prog 37 N37 res37 c37 := mkF [] pures Tryz.func37
-- (*sentinel/sentinelref6.Vault).Again
def N38 : Nat := 98
def keep38 : List Nat := [0, 1, 4, 5, 6, 7, 14, 25, 29, 69]
def res38 : List RV := []
def c38 : CC :=
 (qR [qj 4 0]
 (.seq (qR [qj 5 0]
 (.block 0 (.loop (.seq (qR [qm 8 5, qm 9 0, qn 10 9, qf 11 0 10, ql 12 11, qg 13 12, qb 14 .lss (.t 8) (.t 13)]
 (.cond (.t 14)
 .skip
 (.exit 0)))
 (.seq (.block 1 (.seq (qR [qm 17 0, qn 18 17, qf 19 0 18, ql 20 19, qm 21 5, qi 22 3 20 21, qf 23 2 22, ql 24 23, qo 25 (.un .not (.t 24))]
 (.cond (.t 25)
 (.exit 1)
 .skip))
 (qR [qj 6 0]
 (.seq (qR [qm 26 4, qm 27 1, qg 28 27, qb 29 .lss (.t 26) (.t 28)]
 (.cond (.t 29)
 (.reg [qz 30 1, qz 31 4, ⟨(some 32), (.iadS 1 (.t 30) (.t 31)), none, 1⟩, qk 33 32, ⟨(some 34), (.mx (.t 33) (.c (.int 0))), none, 0⟩, qz 35 0, ⟨(some 36), (.nilck (.t 35)), none, 0⟩, ⟨(some 37), (.fad 0 (.t 36)), none, 0⟩, qk 38 37, qz 39 5, ⟨(some 40), (.iadS 3 (.t 38) (.t 39)), none, 1⟩, ⟨(some 41), (.fad 1 (.t 40)), none, 0⟩, qk 42 41, ⟨(some 43), (.len false (.t 42)), none, 0⟩, ⟨(some 44), (.mn (.t 34) (.t 43)), none, 0⟩, qz 6 44] [])
 .skip))
 (qR [qm 45 4, qb 46 .add (.t 45) (.c (.int 1)), qm 4 46]
 (qR [qo 47 (.bsl false .u8 1 0 [(.u8 0)] []), qm 48 0, qn 49 48, qf 50 0 49, ql 51 50, qm 52 5, qi 53 3 51 52, qf 54 1 53, ql 55 54, qm 56 6, qo 57 (.slcS 1 (.t 55) none (some (.t 56)) none), qo 58 (.app true 1 1 (.t 47) (.t 57)), qm 7 58]
 (.seq (qR [qm 59 6, qm 60 0, qn 61 60, qf 62 0 61, ql 63 62, qm 64 5, qi 65 3 63 64, qf 66 0 65, ql 67 66, qg 68 67, qb 69 .lss (.t 59) (.t 68)]
 (.cond (.t 69)
 (.reg [qm 70 7, qm 71 0, qn 72 71, qf 73 0 72, ql 74 73, qm 75 5, qi 76 3 74 75, qf 77 0 76, ql 78 77, qm 79 6, qo 80 (.slcS 1 (.t 78) (some (.t 79)) none none), qo 81 (.app true 1 1 (.t 70) (.t 80)), qm 7 81] [])
 .skip))
 (.reg [qm 82 0, qn 83 82, qf 84 0 83, ql 85 84, qm 86 5, qm 87 7, qo 88 (.build [(.sl true 0 0 (.agg []) true), (.sl true 0 0 (.agg []) true), (.bool false)] [(0, (1, (.t 87)))]), qi 89 3 85 86, ⟨none, (.store (some 3) (.t 89) (.t 88)), none, 2⟩] []))))))))
 (.reg [qm 15 5, qb 16 .add (.t 15) (.c (.int 1)), qm 5 16] []))))))
 (qR [qm 90 0, qm 91 0, qn 92 90, qf 93 2 92, ⟨none, (.store none (.t 93) (.c (.bool false))), none, 2⟩, qn 94 91, qf 95 1 94, ⟨none, (.store none (.t 95) (.c (.int (-1)))), none, 2⟩]
 (.reg [qm 96 0, qc 97 35 [(.t 96)]] []))))
theorem o38 : FnOK Tryz.prog 38 N38 res38 c38 := mkF [] pures Tryz.func38
-- (*sentinel/sentinelref6.Vault).Names
def N39 : Nat := 59
def keep39 : List Nat := [0, 2, 3, 4, 7, 8, 9, 10, 12, 28, 42]
def res39 : List RV := [(.t 2)]
def c39 : CC :=
 (qR [qo 2 (.mov (.c (.sl true 0 0 (.agg []) true)))]
 (qR [qo 3 (.mov (.c (.sl true 0 0 (.agg []) true)))]
 (.seq (qR [qj 4 0]
 (.block 0 (.loop (.seq (qR [qm 11 4, qb 12 .lss (.t 11) (.c (.int 8))]
 (.cond (.t 12)
 .skip
 (.exit 0)))
 (.seq (.block 1 (qR [qm 16 0, qm 17 4, qc 18 59 [(.t 16), (.t 17)], qm 15 18, qe 19 15 0, qe 20 15 1, qe 21 15 2, qm 5 19, qm 6 20, qm 7 21]
 (qR [qm 23 7, qc 24 60 [(.t 23)], qm 22 24, qe 25 22 0, qe 26 22 1, qo 8 (.alloc qv), ⟨none, (.store (some 23) (.t 8) (.t 25)), none, 2⟩, qm 9 26]
 (.seq (qR [qm 27 9, qo 28 (.un .not (.t 27))]
 (.cond (.t 28)
 (.exit 1)
 .skip))
 (qR [qm 29 3, qg 30 29, qm 10 30]
 (.seq (.block 2 (.loop (.seq (qR [qz 31 10, ⟨(some 32), (.bin .gtr (.t 31) (.c (.int 0))), none, 0⟩, qz 33 32, ⟨(some 34), (.fad 1 (.t 8)), (some (33, true)), 0⟩, ⟨(some 35), (.load none (.t 34)), (some (33, true)), 1⟩, ⟨(some 36), (.mov (.t 3)), (some (33, true)), 0⟩, ⟨(some 37), (.mov (.t 10)), (some (33, true)), 0⟩, ⟨(some 38), (.bin .sub (.t 37) (.c (.int 1))), (some (33, true)), 0⟩, ⟨(some 39), (.iadS 1 (.t 36) (.t 38)), (some (33, true)), 1⟩, ⟨(some 40), (.load none (.t 39)), (some (33, true)), 1⟩, ⟨(some 41), (.bin .lss (.t 35) (.t 40)), (some (33, true)), 0⟩, ⟨(some 42), (.pick (.t 33) (.t 41) (.c (.bool false))), none, 0⟩]
 (.cond (.t 42)
 .skip
 (.exit 2)))
 (.block 3 (.reg [qm 43 10, qb 44 .sub (.t 43) (.c (.int 1)), qm 10 44] [])))))
 (.reg [⟨(some 45), (.bsl false .other 1 0 [(.str [])] []), none, 0⟩, qz 46 3, qz 47 10, ⟨(some 48), (.slcS 1 (.t 46) none (some (.t 47)) none), none, 0⟩, qo 49 (.app true 1 16 (.t 45) (.t 48)), ⟨(some 50), (.fad 1 (.t 8)), none, 0⟩, qk 51 50, ⟨(some 52), (.bsl false .other 1 1 [(.str [])] [(0, (1, (.t 51)))]), none, 0⟩, qo 53 (.app true 1 16 (.t 49) (.t 52)), qz 54 3, qz 55 10, ⟨(some 56), (.slcS 1 (.t 54) (some (.t 55)) none none), none, 0⟩, qo 57 (.app true 1 16 (.t 53) (.t 56)), qz 3 57]
 [(50, 49)])))))))
 (.reg [qm 13 4, qb 14 .add (.t 13) (.c (.int 1)), qm 4 14] []))))))
 (qR [qm 58 3, qm 2 58]
 .ret))))
theorem o39 : FnOK Tryz.prog 39 N39 res39 c39 := mkF [] pures Tryz.func39
-- (*sentinel/sentinelref6.Vault).Boot
def N40 : Nat := 21
def keep40 : List Nat := [0, 2, 3, 5, 18]
def res40 : List RV := [(.t 2)]
def c40 : CC :=
 (qR [qj 2 0]
 (qR [qm 7 0, qc 8 59 [(.t 7), (.c (.int 8))], qm 6 8, qe 9 6 0, qe 10 6 1, qe 11 6 2, qm 3 9, qm 4 10, qm 5 11]
 (.seq (qR [qm 12 3, qb 13 .lss (.t 12) (.c (.int 0)), qm 14 13, ⟨(some 15), (.mov (.t 5)), (some (14, false)), 2⟩, ⟨(some 16), (.len false (.t 15)), (some (14, false)), 2⟩, ⟨(some 17), (.eq true .sc (.t 16) (.c (.int 8))), (some (14, false)), 2⟩, qo 18 (.pick (.t 14) (.c (.bool true)) (.t 17))]
 (.cond (.t 18)
 (qR [qj 2 0]
 .ret)
 .skip))
 (qR [qm 19 5, qc 20 69 [(.t 19)], qm 2 20]
 .ret))))
theorem o40 : FnOK Tryz.prog 40 N40 res40 c40 := mkF [] pures Tryz.func40
-- (*sentinel/sentinelref6.Vault).Dead
def N41 : Nat := 7
def keep41 : List Nat := [0, 2]
def res41 : List RV := [(.t 2)]
def c41 : CC :=
 (qR [qo 2 (.mov (.c (.bool false)))]
 (qR [qm 3 0, qn 4 3, qf 5 2 4, ql 6 5, qm 2 6]
 .ret))
theorem o41 : FnOK Tryz.prog 41 N41 res41 c41 := mkF [] pures Tryz.func41
-- sentinel/sentinellaw5.Record
def N42 : Nat := 57
def keep42 : List Nat := [0, 1, 2, 6, 7]
def res42 : List RV := [(.c 6 (some 23))]
def c42 : CC :=
 (qR [qo 6 (.alloc qv)]
 (qR [qm 8 0, qc 9 70 [(.t 8), (.c (.int 2))], qb 10 .add (.c (.int 1)) (.t 9), qm 11 1, qc 12 71 [(.t 11)], qm 13 0, qb 14 .quo (.t 13) (.c (.int 2)), qc 15 70 [(.t 14), (.c (.int 4294967296))], qc 16 72 [(.t 15)], qm 17 0, qb 18 .quo (.t 17) (.c (.int 7)), qc 19 70 [(.t 18), (.c (.int 4294967296))], qc 20 72 [(.t 19)], qm 21 0, qb 22 .quo (.t 21) (.c (.int 11)), qc 23 70 [(.t 22), (.c (.int 6))], qm 24 0, qb 25 .quo (.t 24) (.c (.int 13)), qc 26 70 [(.t 25), (.c (.int 1000))], qm 27 0, qb 28 .quo (.t 27) (.c (.int 17)), qc 29 70 [(.t 28), (.c (.int 1099511627776))], qo 30 (.build [(.int 0), (.str []), (.sl true 0 0 (.agg []) true), (.u32 0), (.u32 0), (.u32 0), (.u32 0), (.u32 0), (.u32 0), (.u32 0), (.u32 0), (.u32 0), (.u32 0), (.u32 0), (.u32 0), (.u32 0), (.u32 0), (.u32 0), (.u32 0), (.sl true 0 0 (.agg []) true), (.int 0), (.int 0), (.int 0)] [(0, (1, (.t 10))), (1, (1, (.t 12))), (3, (8, (.t 16))), (11, (8, (.t 20))), (20, (1, (.t 23))), (21, (1, (.t 26))), (22, (1, (.t 29)))]), qo 7 (.alloc qv), ⟨none, (.store (some 23) (.t 7) (.t 30)), none, 2⟩]
 (qR [⟨(some 31), (.fad 2 (.t 7)), none, 0⟩, qk 32 31, qz 33 2, qz 34 0, qz 35 2, ⟨(some 36), (.len false (.t 35)), none, 0⟩, ⟨(some 37), (.mn (.t 36) (.c (.int 16))), none, 0⟩, ⟨(some 38), (.bin .add (.t 37) (.c (.int 1))), none, 0⟩, ⟨(some 39), (.call (.c (.fn 70 [])) [(.t 34), (.t 38)]), none, 0⟩, ⟨(some 40), (.slcS 1 (.t 33) none (some (.t 39)) none), none, 0⟩, qo 41 (.app true 1 1 (.t 32) (.t 40)), ⟨(some 42), (.fad 2 (.t 7)), none, 0⟩, qs 42 41]
 (qR [⟨(some 43), (.fad 19 (.t 7)), none, 0⟩, qk 44 43, qz 45 2, qz 46 0, ⟨(some 47), (.bin .quo (.t 46) (.c (.int 3))), none, 0⟩, qz 48 2, ⟨(some 49), (.len false (.t 48)), none, 0⟩, ⟨(some 50), (.mn (.t 49) (.c (.int 48))), none, 0⟩, ⟨(some 51), (.bin .add (.t 50) (.c (.int 1))), none, 0⟩, ⟨(some 52), (.call (.c (.fn 70 [])) [(.t 47), (.t 51)]), none, 0⟩, ⟨(some 53), (.slcS 1 (.t 45) none (some (.t 52)) none), none, 0⟩, qo 54 (.app true 1 1 (.t 44) (.t 53)), ⟨(some 55), (.fad 19 (.t 7)), none, 0⟩, qs 55 54]
 (qR [qo 56 (.load (some 23) (.t 7)), ⟨none, (.store (some 23) (.t 6) (.t 56)), none, 2⟩]
 .ret)))))
theorem o42 : FnOK Tryz.prog 42 N42 res42 c42 := mkF [] pures Tryz.func42
-- sentinel/wire.Record
def N43 : Nat := 119
def keep43 : List Nat := [0, 1, 2, 3, 4, 6, 64, 76, 77, 78, 79]
def res43 : List RV := [(.t 2), (.t 3)]
def c43 : CC :=
 (qR [qo 1 (.box (.t 0)), qo 2 (.mov (.c (.sl true 0 0 (.agg []) true))), qo 3 (.mov (.c (.bool false)))]
 (.seq (qR [qf 7 0 1, ql 8 7, qo 9 (.eq true .sc (.t 8) (.c (.int 1))), qm 10 9, ⟨(some 11), (.fad 0 (.t 1)), (some (10, true)), 2⟩, ⟨(some 12), (.load none (.t 11)), (some (10, true)), 2⟩, ⟨(some 13), (.eq true .sc (.t 12) (.c (.int 2))), (some (10, true)), 2⟩, qo 14 (.pick (.t 10) (.t 13) (.c (.bool false))), qm 15 14, ⟨(some 16), (.fad 1 (.t 1)), (some (15, false)), 2⟩, ⟨(some 17), (.load none (.t 16)), (some (15, false)), 2⟩, ⟨(some 18), (.call (.c (.fn 73 [])) [(.t 17)]), (some (15, false)), 2⟩, ⟨(some 19), (.un .not (.t 18)), (some (15, false)), 2⟩, qo 20 (.pick (.t 15) (.c (.bool true)) (.t 19)), qm 21 20, ⟨(some 22), (.fad 2 (.t 1)), (some (21, false)), 2⟩, ⟨(some 23), (.load none (.t 22)), (some (21, false)), 2⟩, ⟨(some 24), (.len false (.t 23)), (some (21, false)), 2⟩, ⟨(some 25), (.bin .gtr (.t 24) (.c (.int 16))), (some (21, false)), 2⟩, qo 26 (.pick (.t 21) (.c (.bool true)) (.t 25)), qm 27 26, ⟨(some 28), (.fad 19 (.t 1)), (some (27, false)), 2⟩, ⟨(some 29), (.load none (.t 28)), (some (27, false)), 2⟩, ⟨(some 30), (.len false (.t 29)), (some (27, false)), 2⟩, ⟨(some 31), (.bin .gtr (.t 30) (.c (.int 48))), (some (27, false)), 2⟩, qo 32 (.pick (.t 27) (.c (.bool true)) (.t 31)), qm 33 32, ⟨(some 34), (.fad 3 (.t 1)), (some (33, false)), 2⟩, ⟨(some 35), (.load (some 8) (.t 34)), (some (33, false)), 2⟩, ⟨(some 36), (.call (.c (.fn 74 [])) [(.t 35)]), (some (33, false)), 2⟩, ⟨(some 37), (.bin .gtr (.t 36) (.c (.int 32))), (some (33, false)), 2⟩, qo 38 (.pick (.t 33) (.c (.bool true)) (.t 37)), qm 39 38, ⟨(some 40), (.fad 11 (.t 1)), (some (39, false)), 2⟩, ⟨(some 41), (.load (some 8) (.t 40)), (some (39, false)), 2⟩, ⟨(some 42), (.call (.c (.fn 74 [])) [(.t 41)]), (some (39, false)), 2⟩, ⟨(some 43), (.bin .gtr (.t 42) (.c (.int 32))), (some (39, false)), 2⟩, qo 44 (.pick (.t 39) (.c (.bool true)) (.t 43)), qm 45 44, ⟨(some 46), (.fad 20 (.t 1)), (some (45, false)), 2⟩, ⟨(some 47), (.load none (.t 46)), (some (45, false)), 2⟩, ⟨(some 48), (.bin .lss (.t 47) (.c (.int 0))), (some (45, false)), 2⟩, qo 49 (.pick (.t 45) (.c (.bool true)) (.t 48)), qm 50 49, ⟨(some 51), (.fad 20 (.t 1)), (some (50, false)), 2⟩, ⟨(some 52), (.load none (.t 51)), (some (50, false)), 2⟩, ⟨(some 53), (.bin .gtr (.t 52) (.c (.int 255))), (some (50, false)), 2⟩, qo 54 (.pick (.t 50) (.c (.bool true)) (.t 53)), qm 55 54, ⟨(some 56), (.fad 21 (.t 1)), (some (55, false)), 2⟩, ⟨(some 57), (.load none (.t 56)), (some (55, false)), 2⟩, ⟨(some 58), (.bin .lss (.t 57) (.c (.int 0))), (some (55, false)), 2⟩, qo 59 (.pick (.t 55) (.c (.bool true)) (.t 58)), qm 60 59, ⟨(some 61), (.fad 22 (.t 1)), (some (60, false)), 2⟩, ⟨(some 62), (.load none (.t 61)), (some (60, false)), 2⟩, ⟨(some 63), (.bin .lss (.t 62) (.c (.int 0))), (some (60, false)), 2⟩, qo 64 (.pick (.t 60) (.c (.bool true)) (.t 63))]
 (.cond (.t 64)
 (qR [qo 2 (.mov (.c (.sl true 0 0 (.agg []) true))), qo 3 (.mov (.c (.bool false)))]
 .ret)
 .skip))
 (qR [qf 65 0 1, ql 66 65, qo 67 (.conv .iu8 (.t 66)), qo 68 (.bsl false .u8 1 1 [(.u8 0)] [(0, (1, (.t 67)))]), qm 4 68]
 (.seq (qR [qf 69 1 1, ql 70 69, qo 71 (.conv (.strb false) (.t 70)), qf 72 2 1, ql 73 72, qf 74 19 1, ql 75 74, qo 76 (.bsl false .other 1 3 [(.sl true 0 0 (.agg []) true)] [(0, (1, (.t 71))), (1, (1, (.t 73))), (2, (1, (.t 75)))]), qg 77 76, qj 78 0]
 (.block 0 (.loop (qR [qb 79 .lss (.t 78) (.t 77)]
 (.seq (.cond (.t 79)
 .skip
 (.exit 0))
 (.seq (.block 1 (qR [qi 80 1 76 78, ql 81 80, qm 6 81]
 (.reg [qm 82 4, qm 83 6, qg 84 83, qo 85 (.conv .iu8 (.t 84)), qo 86 (.bsl false .u8 1 1 [(.u8 0)] [(0, (1, (.t 85)))]), qo 87 (.app true 1 1 (.t 82) (.t 86)), qm 88 6, qo 89 (.app true 1 1 (.t 87) (.t 88)), qm 4 89] [])))
 (.reg [qb 90 .add (.t 78) (.c (.int 1)), qm 78 90] [])))))))
 (.seq (.reg [qz 91 4, ⟨(some 92), (.fad 3 (.t 1)), none, 0⟩, ⟨(some 93), (.load (some 8) (.t 92)), none, 1⟩, ⟨(some 94), (.call (.c (.fn 75 [])) [(.t 93), (.c (.int 4))]), none, 0⟩, qo 95 (.app true 1 1 (.t 91) (.t 94)), ⟨(some 96), (.fad 11 (.t 1)), none, 0⟩, ⟨(some 97), (.load (some 8) (.t 96)), none, 1⟩, ⟨(some 98), (.call (.c (.fn 75 [])) [(.t 97), (.c (.int 4))]), none, 0⟩, qo 99 (.app true 1 1 (.t 95) (.t 98)), qz 4 99]
 [(96, 95)])
 (qR [qm 100 4, qf 101 20 1, ql 102 101, qo 103 (.conv .iu8 (.t 102)), qo 104 (.bsl false .u8 1 1 [(.u8 0)] [(0, (1, (.t 103)))]), qo 105 (.app true 1 1 (.t 100) (.t 104)), qm 4 105]
 (.seq (.reg [qz 106 4, ⟨(some 107), (.fad 21 (.t 1)), none, 0⟩, qk 108 107, ⟨(some 109), (.call (.c (.fn 68 [])) [(.t 108)]), none, 0⟩, ⟨(some 110), (.call (.c (.fn 75 [])) [(.t 109), (.c (.int 8))]), none, 0⟩, qo 111 (.app true 1 1 (.t 106) (.t 110)), ⟨(some 112), (.fad 22 (.t 1)), none, 0⟩, qk 113 112, ⟨(some 114), (.call (.c (.fn 68 [])) [(.t 113)]), none, 0⟩, ⟨(some 115), (.call (.c (.fn 75 [])) [(.t 114), (.c (.int 8))]), none, 0⟩, qo 116 (.app true 1 1 (.t 111) (.t 115)), qz 4 116]
 [(112, 111)])
 (qR [qm 117 4, qc 118 56 [(.t 117)], qm 2 118, qo 3 (.mov (.c (.bool true)))]
 .ret))))))))
theorem o43 : FnOK Tryz.prog 43 N43 res43 c43 := mkF [] pures Tryz.func43
-- (*sentinel/vault.Vault).find
def N44 : Nat := 16
def keep44 : List Nat := [0, 1, 3, 4, 5, 6, 8, 9, 10, 14]
def res44 : List RV := [(.c 4 none)]
def c44 : CC :=
 (qR [qo 3 (.box (.t 1)), qo 4 (.alloc (.agg [(.int 0)]))]
 (.seq (qR [qm 7 0, qc 8 51 [(.t 7)]]
 (.block 0 (.rangeF (.t 8) [9, 10] (qR [qm 5 9]
 (.reg [qo 6 (.alloc qv), ⟨none, (.store (some 23) (.t 6) (.t 10)), none, 2⟩] [])) (.block 1 (qR [qf 11 1 6, ql 12 11, ql 13 3, qo 14 (.eq false .sc (.t 12) (.t 13))]
 (.cond (.t 14)
 (qR [qm 15 5, qs 4 15]
 .ret)
 .skip))))))
 (qR [⟨none, (.store none (.t 4) (.c (.int (-1)))), none, 2⟩]
 .ret)))
theorem o44 : FnOK Tryz.prog 44 N44 res44 c44 := mkF [] pures Tryz.func44
-- (*sentinel/vault.Vault).free
def N45 : Nat := 21
def keep45 : List Nat := [0, 2, 3, 5, 6, 7, 18]
def res45 : List RV := [(.t 2)]
def c45 : CC :=
 (qR [qj 2 0]
 (.seq (qR [qj 6 0]
 (.block 0 (.loop (qR [qb 7 .lss (.t 6) (.c (.int 8))]
 (.seq (.cond (.t 7)
 .skip
 (.exit 0))
 (.seq (.block 1 (qR [qm 8 6, qm 3 8]
 (qR [qm 10 0, qm 11 3, qc 12 54 [(.t 10), (.t 11)], qm 9 12, qe 13 9 0, qe 14 9 1, qo 5 (.alloc (.agg [(.int 0), (.sl true 0 0 (.agg []) true)])), qm 4 13, ⟨none, (.store (some 2) (.t 5) (.t 14)), none, 2⟩]
 (qR [qf 15 1 5, ql 16 15, qg 17 16, qo 18 (.eq false .sc (.t 17) (.c (.int 0)))]
 (.cond (.t 18)
 (qR [qm 19 3, qm 2 19]
 .ret)
 .skip)))))
 (.reg [qb 20 .add (.t 6) (.c (.int 1)), qm 6 20] [])))))))
 (qR [qo 2 (.mov (.c (.int (-1))))]
 .ret)))
theorem o45 : FnOK Tryz.prog 45 N45 res45 c45 := mkF [] pures Tryz.func45
-- sentinel/vault.told
def N46 : Nat := 4
def keep46 : List Nat := [0, 2, 3]
def res46 : List RV := [(.t 2)]
def c46 : CC :=
 (qR [qj 2 0]
 (.seq (qR [qm 3 0]
 (.cond (.t 3)
 (qR [qj 2 0]
 .ret)
 .skip))
 (qR [qj 2 10]
 .ret)))
theorem o46 : FnOK Tryz.prog 46 N46 res46 c46 := mkF [] pures Tryz.func46
-- sentinel/sentinelref5.Record
def N47 : Nat := 118
def keep47 : List Nat := [0, 1, 2, 3, 4, 62]
def res47 : List RV := [(.t 2), (.t 3)]
def c47 : CC :=
 (qR [qo 1 (.box (.t 0)), qo 2 (.mov (.c (.sl true 0 0 (.agg []) true))), qo 3 (.mov (.c (.bool false)))]
 (.seq (qR [qf 5 0 1, ql 6 5, qb 7 .lss (.t 6) (.c (.int 1)), qm 8 7, ⟨(some 9), (.fad 0 (.t 1)), (some (8, false)), 2⟩, ⟨(some 10), (.load none (.t 9)), (some (8, false)), 2⟩, ⟨(some 11), (.bin .gtr (.t 10) (.c (.int 2))), (some (8, false)), 2⟩, qo 12 (.pick (.t 8) (.c (.bool true)) (.t 11)), qm 13 12, ⟨(some 14), (.fad 1 (.t 1)), (some (13, false)), 2⟩, ⟨(some 15), (.load none (.t 14)), (some (13, false)), 2⟩, ⟨(some 16), (.call (.c (.fn 76 [])) [(.t 15)]), (some (13, false)), 2⟩, ⟨(some 17), (.un .not (.t 16)), (some (13, false)), 2⟩, qo 18 (.pick (.t 13) (.c (.bool true)) (.t 17)), qm 19 18, ⟨(some 20), (.fad 2 (.t 1)), (some (19, false)), 2⟩, ⟨(some 21), (.load none (.t 20)), (some (19, false)), 2⟩, ⟨(some 22), (.len false (.t 21)), (some (19, false)), 2⟩, ⟨(some 23), (.bin .gtr (.t 22) (.c (.int 16))), (some (19, false)), 2⟩, qo 24 (.pick (.t 19) (.c (.bool true)) (.t 23)), qm 25 24, ⟨(some 26), (.fad 19 (.t 1)), (some (25, false)), 2⟩, ⟨(some 27), (.load none (.t 26)), (some (25, false)), 2⟩, ⟨(some 28), (.len false (.t 27)), (some (25, false)), 2⟩, ⟨(some 29), (.bin .gtr (.t 28) (.c (.int 48))), (some (25, false)), 2⟩, qo 30 (.pick (.t 25) (.c (.bool true)) (.t 29)), qm 31 30, ⟨(some 32), (.fad 3 (.t 1)), (some (31, false)), 2⟩, ⟨(some 33), (.load (some 8) (.t 32)), (some (31, false)), 2⟩, ⟨(some 34), (.call (.c (.fn 77 [])) [(.t 33)]), (some (31, false)), 2⟩, ⟨(some 35), (.un .not (.t 34)), (some (31, false)), 2⟩, qo 36 (.pick (.t 31) (.c (.bool true)) (.t 35)), qm 37 36, ⟨(some 38), (.fad 11 (.t 1)), (some (37, false)), 2⟩, ⟨(some 39), (.load (some 8) (.t 38)), (some (37, false)), 2⟩, ⟨(some 40), (.call (.c (.fn 77 [])) [(.t 39)]), (some (37, false)), 2⟩, ⟨(some 41), (.un .not (.t 40)), (some (37, false)), 2⟩, qo 42 (.pick (.t 37) (.c (.bool true)) (.t 41)), qm 43 42, ⟨(some 44), (.fad 20 (.t 1)), (some (43, false)), 2⟩, ⟨(some 45), (.load none (.t 44)), (some (43, false)), 2⟩, ⟨(some 46), (.bin .lss (.t 45) (.c (.int 0))), (some (43, false)), 2⟩, qo 47 (.pick (.t 43) (.c (.bool true)) (.t 46)), qm 48 47, ⟨(some 49), (.fad 20 (.t 1)), (some (48, false)), 2⟩, ⟨(some 50), (.load none (.t 49)), (some (48, false)), 2⟩, ⟨(some 51), (.bin .gtr (.t 50) (.c (.int 255))), (some (48, false)), 2⟩, qo 52 (.pick (.t 48) (.c (.bool true)) (.t 51)), qm 53 52, ⟨(some 54), (.fad 21 (.t 1)), (some (53, false)), 2⟩, ⟨(some 55), (.load none (.t 54)), (some (53, false)), 2⟩, ⟨(some 56), (.bin .lss (.t 55) (.c (.int 0))), (some (53, false)), 2⟩, qo 57 (.pick (.t 53) (.c (.bool true)) (.t 56)), qm 58 57, ⟨(some 59), (.fad 22 (.t 1)), (some (58, false)), 2⟩, ⟨(some 60), (.load none (.t 59)), (some (58, false)), 2⟩, ⟨(some 61), (.bin .lss (.t 60) (.c (.int 0))), (some (58, false)), 2⟩, qo 62 (.pick (.t 58) (.c (.bool true)) (.t 61))]
 (.cond (.t 62)
 (qR [qo 2 (.mov (.c (.sl true 0 0 (.agg []) true))), qo 3 (.mov (.c (.bool false)))]
 .ret)
 .skip))
 (qR [qf 63 0 1, ql 64 63, qo 65 (.conv .iu8 (.t 64)), qf 66 1 1, ql 67 66, qo 68 (.len true (.t 67)), qo 69 (.conv .iu8 (.t 68)), qo 70 (.bsl false .u8 1 2 [(.u8 0)] [(0, (1, (.t 65))), (1, (1, (.t 69)))]), qf 71 1 1, ql 72 71, qo 73 (.conv (.strb false) (.t 72)), qo 74 (.app true 1 1 (.t 70) (.t 73)), qm 4 74]
 (.seq (.reg [qz 75 4, ⟨(some 76), (.fad 2 (.t 1)), none, 0⟩, qk 77 76, ⟨(some 78), (.len false (.t 77)), none, 0⟩, ⟨(some 79), (.conv .iu8 (.t 78)), none, 0⟩, ⟨(some 80), (.bsl false .u8 1 1 [(.u8 0)] [(0, (1, (.t 79)))]), none, 0⟩, qo 81 (.app true 1 1 (.t 75) (.t 80)), ⟨(some 82), (.fad 2 (.t 1)), none, 0⟩, qk 83 82, qo 84 (.app true 1 1 (.t 81) (.t 83)), qz 4 84]
 [(82, 81)])
 (.seq (.reg [qz 85 4, ⟨(some 86), (.fad 19 (.t 1)), none, 0⟩, qk 87 86, ⟨(some 88), (.len false (.t 87)), none, 0⟩, ⟨(some 89), (.conv .iu8 (.t 88)), none, 0⟩, ⟨(some 90), (.bsl false .u8 1 1 [(.u8 0)] [(0, (1, (.t 89)))]), none, 0⟩, qo 91 (.app true 1 1 (.t 85) (.t 90)), ⟨(some 92), (.fad 19 (.t 1)), none, 0⟩, qk 93 92, qo 94 (.app true 1 1 (.t 91) (.t 93)), qz 4 94]
 [(92, 91)])
 (.seq (.reg [qz 95 4, ⟨(some 96), (.fad 3 (.t 1)), none, 0⟩, ⟨(some 97), (.load (some 8) (.t 96)), none, 1⟩, ⟨(some 98), (.call (.c (.fn 78 [])) [(.t 97)]), none, 0⟩, qo 99 (.app true 1 1 (.t 95) (.t 98)), ⟨(some 100), (.fad 11 (.t 1)), none, 0⟩, ⟨(some 101), (.load (some 8) (.t 100)), none, 1⟩, ⟨(some 102), (.call (.c (.fn 78 [])) [(.t 101)]), none, 0⟩, qo 103 (.app true 1 1 (.t 99) (.t 102)), ⟨(some 104), (.fad 20 (.t 1)), none, 0⟩, qk 105 104, ⟨(some 106), (.conv .iu8 (.t 105)), none, 0⟩, ⟨(some 107), (.bsl false .u8 1 1 [(.u8 0)] [(0, (1, (.t 106)))]), none, 0⟩, qo 108 (.app true 1 1 (.t 103) (.t 107)), qz 4 108]
 [(100, 99), (104, 99), (104, 103)])
 (.seq (.reg [qz 109 4, ⟨(some 110), (.fad 21 (.t 1)), none, 0⟩, qk 111 110, ⟨(some 112), (.call (.c (.fn 79 [])) [(.t 111)]), none, 0⟩, qo 113 (.app true 1 1 (.t 109) (.t 112)), ⟨(some 114), (.fad 22 (.t 1)), none, 0⟩, qk 115 114, ⟨(some 116), (.call (.c (.fn 79 [])) [(.t 115)]), none, 0⟩, qo 117 (.app true 1 1 (.t 113) (.t 116)), qz 2 117, ⟨(some 3), (.mov (.c (.bool true))), none, 0⟩]
 [(114, 113)])
 .ret)))))))
theorem o47 : FnOK Tryz.prog 47 N47 res47 c47 := mkF [] pures Tryz.func47
-- (*sentinel/sentinelref6.Vault).find
def N48 : Nat := 35
def keep48 : List Nat := [0, 1, 4, 5, 8, 9, 10, 12, 33]
def res48 : List RV := [(.t 4)]
def c48 : CC :=
 (qR [qj 4 0]
 (.seq (qR [qj 5 0]
 (.block 0 (.loop (.seq (qR [qm 11 5, qb 12 .lss (.t 11) (.c (.int 8))]
 (.cond (.t 12)
 .skip
 (.exit 0)))
 (.seq (.block 1 (qR [qm 16 0, qm 17 5, qc 18 59 [(.t 16), (.t 17)], qm 15 18, qe 19 15 0, qe 20 15 1, qe 21 15 2, qm 6 19, qm 7 20, qm 8 21]
 (qR [qm 23 8, qc 24 60 [(.t 23)], qm 22 24, qe 25 22 0, qe 26 22 1, qo 9 (.alloc qv), ⟨none, (.store (some 23) (.t 9) (.t 25)), none, 2⟩, qm 10 26]
 (qR [qm 27 10, qm 28 27, ⟨(some 29), (.fad 1 (.t 9)), (some (28, true)), 2⟩, ⟨(some 30), (.load none (.t 29)), (some (28, true)), 2⟩, ⟨(some 31), (.mov (.t 1)), (some (28, true)), 2⟩, ⟨(some 32), (.eq false .sc (.t 30) (.t 31)), (some (28, true)), 2⟩, qo 33 (.pick (.t 28) (.t 32) (.c (.bool false)))]
 (.cond (.t 33)
 (qR [qm 34 5, qm 4 34]
 .ret)
 .skip)))))
 (.reg [qm 13 5, qb 14 .add (.t 13) (.c (.int 1)), qm 5 14] []))))))
 (qR [qo 4 (.mov (.c (.int (-1))))]
 .ret)))
theorem o48 : FnOK Tryz.prog 48 N48 res48 c48 := mkF [] pures Tryz.func48
-- (*sentinel/sentinelref6.Vault).free
def N49 : Nat := 22
def keep49 : List Nat := [0, 2, 3, 6, 8, 20]
def res49 : List RV := [(.t 2)]
def c49 : CC :=
 (qR [qj 2 0]
 (.seq (qR [qj 3 0]
 (.block 0 (.loop (.seq (qR [qm 7 3, qb 8 .lss (.t 7) (.c (.int 8))]
 (.cond (.t 8)
 .skip
 (.exit 0)))
 (.seq (.block 1 (qR [qm 12 0, qm 13 3, qc 14 59 [(.t 12), (.t 13)], qm 11 14, qe 15 11 0, qe 16 11 1, qe 17 11 2, qm 4 15, qm 5 16, qm 6 17]
 (qR [qm 18 6, qg 19 18, qo 20 (.eq false .sc (.t 19) (.c (.int 0)))]
 (.cond (.t 20)
 (qR [qm 21 3, qm 2 21]
 .ret)
 .skip))))
 (.reg [qm 9 3, qb 10 .add (.t 9) (.c (.int 1)), qm 3 10] []))))))
 (qR [qo 2 (.mov (.c (.int (-1))))]
 .ret)))
theorem o49 : FnOK Tryz.prog 49 N49 res49 c49 := mkF [] pures Tryz.func49
-- (*sentinel/sentinelref6.Vault).write
def N50 : Nat := 65
def keep50 : List Nat := [0, 1, 2, 6, 7, 8, 10, 22, 27, 49]
def res50 : List RV := [(.t 6)]
def c50 : CC :=
 (qR [qj 6 0]
 (qR [qm 12 0, qm 13 1, qc 14 59 [(.t 12), (.t 13)], qm 11 14, qe 15 11 0, qe 16 11 1, qe 17 11 2, qm 7 15, qm 8 16, qm 9 17]
 (qR [qm 18 1, qb 19 .mul (.c (.int 2)) (.t 18), qm 10 19]
 (.seq (qR [qm 20 7, qm 21 10, qo 22 (.eq false .sc (.t 20) (.t 21))]
 (.cond (.t 22)
 (.reg [qm 23 10, qb 24 .add (.t 23) (.c (.int 1)), qm 10 24] [])
 .skip))
 (.seq (qR [qm 25 0, qc 26 80 [(.t 25)], qo 27 (.un .not (.t 26))]
 (.cond (.t 27)
 (qR [qj 6 10]
 .ret)
 .skip))
 (qR [qz 28 0, ⟨(some 29), (.nilck (.t 28)), none, 0⟩, ⟨(some 30), (.fad 0 (.t 29)), none, 0⟩, qk 31 30, qz 32 10, qz 33 0, ⟨(some 34), (.nilck (.t 33)), none, 0⟩, ⟨(some 35), (.fad 0 (.t 34)), none, 0⟩, qk 36 35, qz 37 10, qz 38 10, qz 39 8, ⟨(some 40), (.bin .add (.t 39) (.c (.int 1))), none, 0⟩, qz 41 2, ⟨(some 42), (.call (.c (.fn 81 [])) [(.t 38), (.t 40), (.t 41)]), none, 0⟩, ⟨(some 43), (.iadS 3 (.t 31) (.t 32)), none, 1⟩, ⟨(some 44), (.fad 1 (.t 43)), none, 0⟩, qs 44 42, ⟨(some 45), (.iadS 3 (.t 36) (.t 37)), none, 1⟩, ⟨(some 46), (.fad 2 (.t 45)), none, 0⟩, ⟨none, (.store none (.t 46) (.c (.bool true))), none, 2⟩]
 (.seq (qR [qm 47 0, qc 48 80 [(.t 47)], qo 49 (.un .not (.t 48))]
 (.cond (.t 49)
 (qR [qj 6 10]
 .ret)
 .skip))
 (qR [qz 50 0, ⟨(some 51), (.nilck (.t 50)), none, 0⟩, ⟨(some 52), (.fad 0 (.t 51)), none, 0⟩, qk 53 52, qz 54 10, qz 55 0, ⟨(some 56), (.nilck (.t 55)), none, 0⟩, ⟨(some 57), (.fad 0 (.t 56)), none, 0⟩, qk 58 57, qz 59 10, ⟨(some 60), (.iadS 3 (.t 58) (.t 59)), none, 1⟩, ⟨(some 61), (.fad 1 (.t 60)), none, 0⟩, qk 62 61, ⟨(some 63), (.build [(.sl true 0 0 (.agg []) true), (.sl true 0 0 (.agg []) true), (.bool false)] [(0, (1, (.t 62)))]), none, 0⟩, ⟨(some 64), (.iadS 3 (.t 53) (.t 54)), none, 1⟩, ⟨none, (.store (some 3) (.t 64) (.t 63)), none, 2⟩]
 (qR [qj 6 0]
 .ret)))))))))
theorem o50 : FnOK Tryz.prog 50 N50 res50 c50 := mkF [] pures Tryz.func50
-- (*sentinel/vault.Vault).records
def N51 : Nat := 4
def keep51 : List Nat := [0, 1, 2]
def res51 : List RV := [(.t 2)]
def c51 : CC :=
 (qR [qo 1 (.box (.t 0)), qo 2 (.mov (.c .nilf))]
 (qR [qo 3 (.mkf 82 [(.t 1)]), qm 2 3]
 .ret))
theorem o51 : FnOK Tryz.prog 51 N51 res51 c51 := mkF [] pures Tryz.func51
-- slices.Sort[[]string,string]
def N52 : Nat := 11
def keep52 : List Nat := [0, 2]
def res52 : List RV := []
def c52 : CC :=
 (qR [qm 3 0, qg 4 3, qm 2 4]
 (.reg [qm 5 0, qm 6 2, qm 7 2, qo 8 (.conv .iu64 (.t 7)), qc 9 85 [(.t 8)], qc 10 84 [(.t 5), (.c (.int 0)), (.t 6), (.t 9)]] []))
theorem o52 : FnOK Tryz.prog 52 N52 res52 c52 := mkF [] pures Tryz.func52
-- slices.Clone[[]string,string]
def N53 : Nat := 8
def keep53 : List Nat := [0, 2, 4]
def res53 : List RV := [(.t 2)]
def c53 : CC :=
 (qR [qo 2 (.mov (.c (.sl true 0 0 (.agg []) true)))]
 (.seq (qR [qm 3 0, qo 4 (.eq false .slice (.t 3) (.c (.sl true 0 0 (.agg []) true)))]
 (.cond (.t 4)
 (qR [qo 2 (.mov (.c (.sl true 0 0 (.agg []) true)))]
 .ret)
 .skip))
 (qR [qo 5 (.bsl false .other 1 0 [(.str [])] []), qm 6 0, qo 7 (.app true 1 16 (.t 5) (.t 6)), qm 2 7]
 .ret)))
theorem o53 : FnOK Tryz.prog 53 N53 res53 c53 := mkF [] pures Tryz.func53
-- (*sentinel/vault.Vault).counts
def N54 : Nat := 52
def keep54 : List Nat := [0, 1, 4, 5, 6, 7, 8, 9, 10, 12, 13, 46]
def res54 : List RV := [(.t 4), (.c 5 (some 2))]
def c54 : CC :=
 (qR [qj 4 0, qo 5 (.alloc (.agg [(.int 0), (.sl true 0 0 (.agg []) true)]))]
 (qR [qo 11 (.build [(.int 0), (.sl true 0 0 (.agg []) true)] []), qo 7 (.alloc (.agg [(.int 0), (.sl true 0 0 (.agg []) true)])), qo 6 (.mov (.c (.int (-1)))), ⟨none, (.store (some 2) (.t 7) (.t 11)), none, 2⟩]
 (.seq (qR [qj 12 0]
 (.block 0 (.loop (qR [qb 13 .lss (.t 12) (.c (.int 2))]
 (.seq (.cond (.t 13)
 .skip
 (.exit 0))
 (.seq (.block 1 (qR [qm 14 12, qm 8 14]
 (qR [qm 16 1, qb 17 .mul (.c (.int 2)) (.t 16), qm 18 8, qb 19 .add (.t 17) (.t 18), qm 20 0, qn 21 20, qf 22 0 21, qf 23 0 22, ql 24 23, qm 25 1, qb 26 .mul (.c (.int 2)) (.t 25), qm 27 8, qb 28 .add (.t 26) (.t 27), qi 29 3 24 28, qf 30 0 29, ql 31 30, qc 32 86 [(.t 19), (.t 31)], qm 15 32, qe 33 15 0, qe 34 15 1, qo 9 (.alloc (.agg [(.int 0), (.sl true 0 0 (.agg []) true)])), ⟨none, (.store (some 2) (.t 9) (.t 33)), none, 2⟩, qm 10 34]
 (qR [qm 35 10, qm 36 35, ⟨(some 37), (.mov (.t 6)), (some (36, true)), 2⟩, ⟨(some 38), (.bin .lss (.t 37) (.c (.int 0))), (some (36, true)), 2⟩, ⟨(some 39), (.mov (.t 38)), (some (36, true)), 2⟩, ⟨(some 40), (.fad 0 (.t 9)), (some (39, false)), 2⟩, ⟨(some 41), (.load none (.t 40)), (some (39, false)), 2⟩, ⟨(some 42), (.fad 0 (.t 7)), (some (39, false)), 2⟩, ⟨(some 43), (.load none (.t 42)), (some (39, false)), 2⟩, ⟨(some 44), (.bin .gtr (.t 41) (.t 43)), (some (39, false)), 2⟩, ⟨(some 45), (.pick (.t 39) (.c (.bool true)) (.t 44)), (some (36, true)), 2⟩, qo 46 (.pick (.t 36) (.t 45) (.c (.bool false)))]
 (.cond (.t 46)
 (.reg [qz 47 8, ⟨(some 48), (.load (some 2) (.t 9)), none, 1⟩, qz 6 47, ⟨none, (.store (some 2) (.t 7) (.t 48)), none, 2⟩] [])
 .skip)))))
 (.reg [qb 49 .add (.t 12) (.c (.int 1)), qm 12 49] [])))))))
 (qR [qz 50 6, ⟨(some 51), (.load (some 2) (.t 7)), none, 1⟩, qz 4 50, ⟨none, (.store (some 2) (.t 5) (.t 51)), none, 2⟩]
 .ret))))
theorem o54 : FnOK Tryz.prog 54 N54 res54 c54 := mkF [] pures Tryz.func54
-- sentinel/vault.number
def N55 : Nat := 19
def keep55 : List Nat := [0, 2, 3]
def res55 : List RV := [(.t 2)]
def c55 : CC :=
 (qR [qj 2 0]
 (qR [qm 6 0, qc 7 87 [(.t 6)], qm 5 7, qe 8 5 0, qe 9 5 1, qo 3 (.alloc (.agg [(.u32 0), (.u32 0), (.u32 0), (.u32 0), (.u32 0), (.u32 0), (.u32 0), (.u32 0)])), ⟨none, (.store (some 8) (.t 3) (.t 8)), none, 2⟩, qm 4 9]
 (qR [qo 10 (.iadA 8 1 (.t 3) (.c (.int 0))), ql 11 10, qo 12 (.conv .u32u64 (.t 11)), qo 13 (.iadA 8 1 (.t 3) (.c (.int 1))), ql 14 13, qo 15 (.conv .u32u64 (.t 14)), qb 16 .shl (.t 15) (.c (.u64 32)), qb 17 .or (.t 12) (.t 16), qo 18 (.conv .u64i (.t 17)), qm 2 18]
 .ret)))
theorem o55 : FnOK Tryz.prog 55 N55 res55 c55 := mkF [] pures Tryz.func55
-- bytes.Clone
def N56 : Nat := 8
def keep56 : List Nat := [0, 2, 4]
def res56 : List RV := [(.t 2)]
def c56 : CC :=
 (qR [qo 2 (.mov (.c (.sl true 0 0 (.agg []) true)))]
 (.seq (qR [qm 3 0, qo 4 (.eq false .slice (.t 3) (.c (.sl true 0 0 (.agg []) true)))]
 (.cond (.t 4)
 (qR [qo 2 (.mov (.c (.sl true 0 0 (.agg []) true)))]
 .ret)
 .skip))
 (qR [qo 5 (.bsl false .u8 1 0 [(.u8 0)] []), qm 6 0, qo 7 (.app true 1 1 (.t 5) (.t 6)), qm 2 7]
 .ret)))
theorem o56 : FnOK Tryz.prog 56 N56 res56 c56 := mkF [] pures Tryz.func56
-- slices.Clip[[]sentinel/api.Cell,sentinel/api.Cell]
def N57 : Nat := 9
def keep57 : List Nat := [0, 2]
def res57 : List RV := [(.t 2)]
def c57 : CC :=
 (qR [qo 2 (.mov (.c (.sl true 0 0 (.agg []) true)))]
 (qR [qm 3 0, qm 4 0, qg 5 4, qm 6 0, qg 7 6, qo 8 (.slcS 3 (.t 3) none (some (.t 5)) (some (.t 7))), qm 2 8]
 .ret))
theorem o57 : FnOK Tryz.prog 57 N57 res57 c57 := mkF [] pures Tryz.func57
-- slices.Concat[[]byte,byte]
def N58 : Nat := 36
def keep58 : List Nat := [0, 2, 3, 5, 6, 8, 9, 10, 11, 12, 20, 25, 26, 27, 28]
def res58 : List RV := [(.t 2)]
def c58 : CC :=
 (qR [qo 2 (.mov (.c (.sl true 0 0 (.agg []) true)))]
 (qR [qj 3 0]
 (.seq (qR [qm 9 0, qg 10 9, qj 11 0]
 (.block 0 (.loop (qR [qb 12 .lss (.t 11) (.t 10)]
 (.seq (.cond (.t 12)
 .skip
 (.exit 0))
 (.seq (.block 1 (qR [qi 13 1 9 11, ql 14 13, qm 5 14]
 (qR [qm 15 3, qm 16 5, qg 17 16, qb 18 .add (.t 15) (.t 17), qm 3 18]
 (qR [qm 19 3, qb 20 .lss (.t 19) (.c (.int 0))]
 (.cond (.t 20)
 (.reg [qo 21 (.mki 9 (.c (.str [108, 101, 110, 32, 111, 117, 116, 32, 111, 102, 32, 114, 97, 110, 103, 101]))), ⟨none, .bad, none, 2⟩] [])
 .skip)))))
 (.reg [qb 22 .add (.t 11) (.c (.int 1)), qm 11 22] [])))))))
 (qR [qm 23 3, qo 24 (.call (.c (.fn 88 [])) [(.c (.sl true 0 0 (.agg []) true)), (.t 23)]), qm 6 24]
 (.seq (qR [qm 25 0, qg 26 25, qj 27 0]
 (.block 2 (.loop (qR [qb 28 .lss (.t 27) (.t 26)]
 (.seq (.cond (.t 28)
 .skip
 (.exit 2))
 (.seq (.block 3 (qR [qi 29 1 25 27, ql 30 29, qm 8 30]
 (.reg [qm 31 6, qm 32 8, qo 33 (.app true 1 1 (.t 31) (.t 32)), qm 6 33] [])))
 (.reg [qb 34 .add (.t 27) (.c (.int 1)), qm 27 34] [])))))))
 (qR [qm 35 6, qm 2 35]
 .ret))))))
theorem o58 : FnOK Tryz.prog 58 N58 res58 c58 := mkF [] pures Tryz.func58
-- (*sentinel/sentinelref6.Vault).counts
def N59 : Nat := 53
def keep59 : List Nat := [0, 1, 4, 5, 6, 7, 8, 9, 10, 11, 12, 13, 20, 46]
def res59 : List RV := [(.t 4), (.t 5), (.t 6)]
def c59 : CC :=
 (qR [qj 4 0, qj 5 0, qo 6 (.mov (.c (.sl true 0 0 (.agg []) true)))]
 (qR [qo 7 (.mov (.c (.int (-1)))), qj 8 0]
 (qR [qo 9 (.mov (.c (.sl true 0 0 (.agg []) true)))]
 (.seq (qR [qm 14 1, qb 15 .mul (.c (.int 2)) (.t 14), qm 10 15]
 (.block 0 (.loop (.seq (qR [qm 16 10, qm 17 1, qb 18 .mul (.c (.int 2)) (.t 17), qb 19 .add (.t 18) (.c (.int 2)), qb 20 .lss (.t 16) (.t 19)]
 (.cond (.t 20)
 .skip
 (.exit 0)))
 (.seq (.block 1 (qR [qm 24 10, qm 25 0, qn 26 25, qf 27 0 26, ql 28 27, qm 29 10, qi 30 3 28 29, qf 31 0 30, ql 32 31, qc 33 89 [(.t 24), (.t 32)], qm 23 33, qe 34 23 0, qe 35 23 1, qe 36 23 2, qm 11 34, qm 12 35, qm 13 36]
 (qR [qm 37 13, qm 38 37, ⟨(some 39), (.mov (.t 7)), (some (38, true)), 2⟩, ⟨(some 40), (.bin .lss (.t 39) (.c (.int 0))), (some (38, true)), 2⟩, ⟨(some 41), (.mov (.t 40)), (some (38, true)), 2⟩, ⟨(some 42), (.mov (.t 11)), (some (41, false)), 2⟩, ⟨(some 43), (.mov (.t 8)), (some (41, false)), 2⟩, ⟨(some 44), (.bin .gtr (.t 42) (.t 43)), (some (41, false)), 2⟩, ⟨(some 45), (.pick (.t 41) (.c (.bool true)) (.t 44)), (some (38, true)), 2⟩, qo 46 (.pick (.t 38) (.t 45) (.c (.bool false)))]
 (.cond (.t 46)
 (.reg [qm 47 10, qm 48 11, qm 49 12, qm 7 47, qm 8 48, qm 9 49] [])
 .skip))))
 (.reg [qm 21 10, qb 22 .add (.t 21) (.c (.int 1)), qm 10 22] []))))))
 (qR [qm 50 7, qm 51 8, qm 52 9, qm 4 50, qm 5 51, qm 6 52]
 .ret)))))
theorem o59 : FnOK Tryz.prog 59 N59 res59 c59 := mkF [] pures Tryz.func59
-- sentinel/sentinelref5.ReadRecord
def N60 : Nat := 82
def keep60 : List Nat := [0, 2, 3, 4, 5, 6, 7, 79]
def res60 : List RV := [(.c 2 (some 23)), (.t 3)]
def c60 : CC :=
 (qR [qo 2 (.alloc qv), qo 3 (.mov (.c (.bool false)))]
 (qR [qm 8 0, qo 9 (.build [(.sl true 0 0 (.agg []) true), (.bool false)] [(0, (1, (.t 8)))]), qo 10 (.box (.t 9)), qm 4 10]
 (qR [qm 11 4, qc 12 91 [(.t 11), (.c (.int 1))], qc 13 90 [(.t 12)], qo 14 (.build [(.int 0), (.str []), (.sl true 0 0 (.agg []) true), (.u32 0), (.u32 0), (.u32 0), (.u32 0), (.u32 0), (.u32 0), (.u32 0), (.u32 0), (.u32 0), (.u32 0), (.u32 0), (.u32 0), (.u32 0), (.u32 0), (.u32 0), (.u32 0), (.sl true 0 0 (.agg []) true), (.int 0), (.int 0), (.int 0)] [(0, (1, (.t 13)))]), qo 5 (.alloc qv), ⟨none, (.store (some 23) (.t 5) (.t 14)), none, 2⟩]
 (qR [qm 15 4, qm 16 4, qc 17 91 [(.t 16), (.c (.int 1))], qc 18 90 [(.t 17)], qc 19 91 [(.t 15), (.t 18)], qo 20 (.conv .bstr (.t 19)), qf 21 1 5, qs 21 20]
 (qR [qm 22 4, qm 23 4, qc 24 91 [(.t 23), (.c (.int 1))], qc 25 90 [(.t 24)], qc 26 91 [(.t 22), (.t 25)], qf 27 2 5, qs 27 26]
 (qR [qm 28 4, qm 29 4, qc 30 91 [(.t 29), (.c (.int 1))], qc 31 90 [(.t 30)], qc 32 91 [(.t 28), (.t 31)], qf 33 19 5, qs 33 32]
 (qR [qm 35 4, qc 36 91 [(.t 35), (.c (.int 4))], qc 37 92 [(.t 36)], qm 34 37, qe 38 34 0, qe 39 34 1, qf 40 3 5, ⟨none, (.store (some 8) (.t 40) (.t 38)), none, 2⟩]
 (qR [qm 42 4, qc 43 91 [(.t 42), (.c (.int 4))], qc 44 92 [(.t 43)], qm 41 44, qe 45 41 0, qe 46 41 1, qf 47 11 5, ⟨none, (.store (some 8) (.t 47) (.t 45)), none, 2⟩]
 (qR [qm 48 4, qc 49 91 [(.t 48), (.c (.int 1))], qc 50 90 [(.t 49)], qf 51 20 5, qs 51 50]
 (qR [qm 52 4, qc 53 91 [(.t 52), (.c (.int 8))], qc 54 90 [(.t 53)], qf 55 21 5, qs 55 54]
 (qR [qm 56 4, qc 57 91 [(.t 56), (.c (.int 8))], qc 58 90 [(.t 57)], qf 59 22 5, qs 59 58]
 (qR [qo 61 (.load (some 23) (.t 5)), qc 62 47 [(.t 61)], qm 60 62, qe 63 60 0, qe 64 60 1, qm 6 63, qm 7 64]
 (.seq (qR [qm 65 4, qn 66 65, qf 67 1 66, ql 68 67, qm 69 68, ⟨(some 70), (.mov (.t 7)), (some (69, false)), 2⟩, ⟨(some 71), (.un .not (.t 70)), (some (69, false)), 2⟩, qo 72 (.pick (.t 69) (.c (.bool true)) (.t 71)), qm 73 72, ⟨(some 74), (.mov (.t 6)), (some (73, false)), 2⟩, ⟨(some 75), (.conv .bstr (.t 74)), (some (73, false)), 2⟩, ⟨(some 76), (.mov (.t 0)), (some (73, false)), 2⟩, ⟨(some 77), (.conv .bstr (.t 76)), (some (73, false)), 2⟩, ⟨(some 78), (.eq true .sc (.t 75) (.t 77)), (some (73, false)), 2⟩, qo 79 (.pick (.t 73) (.c (.bool true)) (.t 78))]
 (.cond (.t 79)
 (qR [qo 80 (.build [(.int 0), (.str []), (.sl true 0 0 (.agg []) true), (.u32 0), (.u32 0), (.u32 0), (.u32 0), (.u32 0), (.u32 0), (.u32 0), (.u32 0), (.u32 0), (.u32 0), (.u32 0), (.u32 0), (.u32 0), (.u32 0), (.u32 0), (.u32 0), (.sl true 0 0 (.agg []) true), (.int 0), (.int 0), (.int 0)] []), ⟨none, (.store (some 23) (.t 2) (.t 80)), none, 2⟩, qo 3 (.mov (.c (.bool false)))]
 .ret)
 .skip))
 (qR [qo 81 (.load (some 23) (.t 5)), ⟨none, (.store (some 23) (.t 2) (.t 81)), none, 2⟩, qo 3 (.mov (.c (.bool true)))]
 .ret))))))))))))))
theorem o60 : FnOK Tryz.prog 60 N60 res60 c60 := mkF [] pures Tryz.func60
-- sentinel/sentinelref3.Raw
def N61 : Nat := 98
def keep61 : List Nat := [0, 1, 4, 5, 6, 7, 8, 9, 10, 11, 27, 31, 82]
def res61 : List RV := [(.c 4 (some 16))]
def c61 : CC :=
 (qR [qo 4 (.alloc (.agg [(.u8 0), (.u8 0), (.u8 0), (.u8 0), (.u8 0), (.u8 0), (.u8 0), (.u8 0), (.u8 0), (.u8 0), (.u8 0), (.u8 0), (.u8 0), (.u8 0), (.u8 0), (.u8 0)]))]
 (qR [qm 12 0, qg 13 12, qc 14 30 [(.t 13)], qm 15 0, qo 16 (.app true 1 1 (.t 14) (.t 15)), qc 17 93 [(.t 16)], qm 5 17]
 (qR [qm 18 5, qm 19 1, qo 20 (.app true 1 1 (.t 18) (.t 19)), qo 21 (.bsl false .u8 1 1 [(.u8 0)] [(0, (1, (.c (.u8 128))))]), qo 22 (.app true 1 1 (.t 20) (.t 21)), qc 23 93 [(.t 22)], qm 5 23]
 (qR [qo 6 (.alloc (.agg [(.u32 0), (.u32 0), (.u32 0), (.u32 0), (.u32 0), (.u32 0), (.u32 0), (.u32 0)]))]
 (.seq (qR [qj 7 0]
 (.block 0 (.loop (.seq (qR [qm 24 7, qm 25 5, qg 26 25, qb 27 .lss (.t 24) (.t 26)]
 (.cond (.t 27)
 .skip
 (.exit 0)))
 (.seq (.block 1 (.seq (qR [qj 8 0]
 (.block 2 (.loop (.seq (qR [qm 30 8, qb 31 .lss (.t 30) (.c (.int 4))]
 (.cond (.t 31)
 .skip
 (.exit 2)))
 (.seq (.block 3 (qR [qm 34 7, qm 35 8, qb 36 .mul (.c (.int 4)) (.t 35), qb 37 .add (.t 34) (.t 36), qm 9 37]
 (.reg [qz 38 8, qz 39 8, ⟨(some 40), (.iadA 8 1 (.t 6) (.t 39)), none, 0⟩, qk 41 40, qz 42 5, qz 43 9, ⟨(some 44), (.iadS 1 (.t 42) (.t 43)), none, 1⟩, qk 45 44, ⟨(some 46), (.conv .u8u32 (.t 45)), none, 0⟩, qz 47 5, qz 48 9, ⟨(some 49), (.bin .add (.t 48) (.c (.int 1))), none, 0⟩, ⟨(some 50), (.iadS 1 (.t 47) (.t 49)), none, 1⟩, qk 51 50, ⟨(some 52), (.conv .u8u32 (.t 51)), none, 0⟩, ⟨(some 53), (.bin .shl (.t 52) (.c (.u64 8))), none, 0⟩, ⟨(some 54), (.bin .or (.t 46) (.t 53)), none, 0⟩, qz 55 5, qz 56 9, ⟨(some 57), (.bin .add (.t 56) (.c (.int 2))), none, 0⟩, ⟨(some 58), (.iadS 1 (.t 55) (.t 57)), none, 1⟩, qk 59 58, ⟨(some 60), (.conv .u8u32 (.t 59)), none, 0⟩, ⟨(some 61), (.bin .shl (.t 60) (.c (.u64 16))), none, 0⟩, ⟨(some 62), (.bin .or (.t 54) (.t 61)), none, 0⟩, qz 63 5, qz 64 9, ⟨(some 65), (.bin .add (.t 64) (.c (.int 3))), none, 0⟩, ⟨(some 66), (.iadS 1 (.t 63) (.t 65)), none, 1⟩, qk 67 66, ⟨(some 68), (.conv .u8u32 (.t 67)), none, 0⟩, ⟨(some 69), (.bin .shl (.t 68) (.c (.u64 24))), none, 0⟩, ⟨(some 70), (.bin .or (.t 62) (.t 69)), none, 0⟩, ⟨(some 71), (.bin .xor (.t 41) (.t 70)), none, 0⟩, ⟨(some 72), (.iadA 8 1 (.t 6) (.t 38)), none, 0⟩, qs 72 71] [])))
 (.reg [qm 32 8, qb 33 .add (.t 32) (.c (.int 1)), qm 8 33] []))))))
 (.reg [qo 73 (.load (some 8) (.t 6)), qc 74 94 [(.t 73)], ⟨none, (.store (some 8) (.t 6) (.t 74)), none, 2⟩] [])))
 (.reg [qm 28 7, qb 29 .add (.t 28) (.c (.int 16)), qm 7 29] []))))))
 (qR [qo 75 (.iadA 8 1 (.t 6) (.c (.int 7))), ql 76 75, qb 77 .xor (.t 76) (.c (.u32 1)), qo 78 (.iadA 8 1 (.t 6) (.c (.int 7))), qs 78 77]
 (qR [qo 79 (.load (some 8) (.t 6)), qc 80 94 [(.t 79)], ⟨none, (.store (some 8) (.t 6) (.t 80)), none, 2⟩]
 (qR [qo 10 (.alloc (.agg [(.u8 0), (.u8 0), (.u8 0), (.u8 0), (.u8 0), (.u8 0), (.u8 0), (.u8 0), (.u8 0), (.u8 0), (.u8 0), (.u8 0), (.u8 0), (.u8 0), (.u8 0), (.u8 0)]))]
 (.seq (qR [qj 11 0]
 (.block 4 (.loop (.seq (qR [qm 81 11, qb 82 .lss (.t 81) (.c (.int 16))]
 (.cond (.t 82)
 .skip
 (.exit 4)))
 (.seq (.block 5 (.reg [qm 85 11, qm 86 11, qb 87 .quo (.t 86) (.c (.int 4)), qo 88 (.iadA 8 1 (.t 6) (.t 87)), ql 89 88, qm 90 11, qb 91 .rem (.t 90) (.c (.int 4)), qb 92 .mul (.c (.int 8)) (.t 91), qo 93 (.conv .iu64 (.t 92)), qb 94 .shr (.t 89) (.t 93), qo 95 (.conv .u32u8 (.t 94)), qo 96 (.iadA 16 1 (.t 10) (.t 85)), qs 96 95] []))
 (.reg [qm 83 11, qb 84 .add (.t 83) (.c (.int 1)), qm 11 84] []))))))
 (qR [qo 97 (.load (some 16) (.t 10)), ⟨none, (.store (some 16) (.t 4) (.t 97)), none, 2⟩]
 .ret))))))))))
theorem o61 : FnOK Tryz.prog 61 N61 res61 c61 := mkF [] pures Tryz.func61
-- sentinel/sentinelref3.Parts
def N62 : Nat := 25
def keep62 : List Nat := [0, 2, 3, 4, 8]
def res62 : List RV := [(.t 2)]
def c62 : CC :=
 (qR [qo 2 (.mov (.c (.sl true 0 0 (.agg []) true)))]
 (qR [qo 3 (.mov (.c (.sl true 0 0 (.agg []) true)))]
 (.seq (qR [qj 4 0]
 (.block 0 (.loop (.seq (qR [qm 5 4, qm 6 0, qg 7 6, qb 8 .lss (.t 5) (.t 7)]
 (.cond (.t 8)
 .skip
 (.exit 0)))
 (.seq (.block 1 (.reg [qz 11 3, qz 12 0, qz 13 4, ⟨(some 14), (.iadS 1 (.t 12) (.t 13)), none, 1⟩, qk 15 14, ⟨(some 16), (.len false (.t 15)), none, 0⟩, ⟨(some 17), (.call (.c (.fn 30 [])) [(.t 16)]), none, 0⟩, qo 18 (.app true 1 1 (.t 11) (.t 17)), qz 19 0, qz 20 4, ⟨(some 21), (.iadS 1 (.t 19) (.t 20)), none, 1⟩, qk 22 21, qo 23 (.app true 1 1 (.t 18) (.t 22)), qz 3 23]
 [(19, 18), (21, 18)]))
 (.reg [qm 9 4, qb 10 .add (.t 9) (.c (.int 1)), qm 4 10] []))))))
 (qR [qm 24 3, qm 2 24]
 .ret))))
theorem o62 : FnOK Tryz.prog 62 N62 res62 c62 := mkF [] pures Tryz.func62
-- sentinel/vault.written
def N63 : Nat := 29
def keep63 : List Nat := [0, 1, 3, 4, 5, 6]
def res63 : List RV := [(.t 4)]
def c63 : CC :=
 (qR [qo 3 (.box (.t 1)), qo 4 (.mov (.c (.sl true 0 0 (.agg []) true)))]
 (qR [⟨(some 7), (.fad 0 (.t 3)), none, 0⟩, qk 8 7, ⟨(some 9), (.call (.c (.fn 34 [])) [(.t 8)]), none, 0⟩, ⟨(some 10), (.fad 1 (.t 3)), none, 0⟩, qk 11 10, ⟨(some 12), (.len false (.t 11)), none, 0⟩, ⟨(some 13), (.conv .iu8 (.t 12)), none, 0⟩, ⟨(some 14), (.bsl false .u8 1 1 [(.u8 0)] [(0, (1, (.t 13)))]), none, 0⟩, ⟨(some 15), (.fad 1 (.t 3)), none, 0⟩, qk 16 15, ⟨(some 17), (.bsl false .other 1 3 [(.sl true 0 0 (.agg []) true)] [(0, (1, (.t 9))), (1, (1, (.t 14))), (2, (1, (.t 16)))]), none, 0⟩, qc 18 58 [(.t 17)], qz 5 18]
 (qR [qo 19 (.bsl true .u8 1 4 [(.u8 0)] [(0, (1, (.c (.u8 99)))), (1, (1, (.c (.u8 101)))), (2, (1, (.c (.u8 108)))), (3, (1, (.c (.u8 108))))]), qo 20 (.conv .mark (.t 19)), qm 21 0, qc 22 34 [(.t 21)], qm 23 5, qo 24 (.bsl false .other 1 3 [(.sl true 0 0 (.agg []) true)] [(0, (1, (.t 20))), (1, (1, (.t 22))), (2, (1, (.t 23)))]), qc 25 95 [(.t 24)], qo 6 (.alloc (.agg [(.u8 0), (.u8 0), (.u8 0), (.u8 0), (.u8 0), (.u8 0), (.u8 0), (.u8 0), (.u8 0), (.u8 0), (.u8 0), (.u8 0), (.u8 0), (.u8 0), (.u8 0), (.u8 0)])), ⟨none, (.store (some 16) (.t 6) (.t 25)), none, 2⟩]
 (qR [qm 26 5, qo 27 (.slcA 16 1 (.t 6) none none), qo 28 (.app true 1 1 (.t 26) (.t 27)), qm 4 28]
 .ret))))
theorem o63 : FnOK Tryz.prog 63 N63 res63 c63 := mkF [19] pures Tryz.func63
-- (*sentinel/vault.device[sentinel/api.Cell]).step
def N64 : Nat := 41
def keep64 : List Nat := [0, 1, 2, 6, 17, 25]
def res64 : List RV := [(.t 6)]
def c64 : CC :=
 (qR [qo 6 (.mov (.c (.bool false)))]
 (.seq (qR [qm 7 0, qn 8 7, qf 9 2 8, ql 10 9, qm 11 10, ⟨(some 12), (.mov (.t 0)), (some (11, false)), 2⟩, ⟨(some 13), (.nilck (.t 12)), (some (11, false)), 2⟩, ⟨(some 14), (.fad 1 (.t 13)), (some (11, false)), 2⟩, ⟨(some 15), (.load none (.t 14)), (some (11, false)), 2⟩, ⟨(some 16), (.eq false .sc (.t 15) (.c (.int 0))), (some (11, false)), 2⟩, qo 17 (.pick (.t 11) (.c (.bool true)) (.t 16))]
 (.cond (.t 17)
 (qR [qm 18 0, qn 19 18, qf 20 2 19, ⟨none, (.store none (.t 20) (.c (.bool true))), none, 2⟩]
 (qR [qo 6 (.mov (.c (.bool false)))]
 .ret))
 .skip))
 (.seq (qR [qm 21 0, qn 22 21, qf 23 1 22, ql 24 23, qb 25 .gtr (.t 24) (.c (.int 0))]
 (.cond (.t 25)
 (.reg [qm 26 0, qn 27 26, qf 28 1 27, ql 29 28, qb 30 .sub (.t 29) (.c (.int 1)), qn 31 26, qf 32 1 31, qs 32 30] [])
 .skip))
 (qR [qm 33 2, qm 34 0, qn 35 34, qf 36 0 35, ql 37 36, qm 38 1, qi 39 3 37 38, qo 40 (.call (.t 33) [(.t 39)])]
 (qR [qo 6 (.mov (.c (.bool true)))]
 .ret)))))
theorem o64 : FnOK Tryz.prog 64 N64 res64 c64 := mkF [] pures Tryz.func64
-- (*sentinel/vault.Vault).write$1
def N65 : Nat := 10
def keep65 : List Nat := [0, 1]
def res65 : List RV := []
def c65 : CC :=
 (.reg [qm 3 0, qm 4 0, ql 5 1, qn 6 3, qf 7 1 6, qs 7 5, qn 8 4, qf 9 2 8, ⟨none, (.store none (.t 9) (.c (.bool true))), none, 2⟩] [])
theorem o65 : FnOK Tryz.prog 65 N65 res65 c65 := mkF [] pures Tryz.func65
-- (*sentinel/vault.Vault).write$2
def N66 : Nat := 9
def keep66 : List Nat := [0]
def res66 : List RV := []
def c66 : CC :=
 (.reg [qm 2 0, qm 3 0, qn 4 3, qf 5 1 4, ql 6 5, qo 7 (.build [(.sl true 0 0 (.agg []) true), (.sl true 0 0 (.agg []) true), (.bool false)] [(0, (1, (.t 6)))]), qn 8 2, ⟨none, (.store (some 3) (.t 8) (.t 7)), none, 2⟩] [])
theorem o66 : FnOK Tryz.prog 66 N66 res66 c66 := mkF [] pures Tryz.func66
-- sentinel/limb.Bytes
def N67 : Nat := 34
def keep67 : List Nat := [0, 1, 2, 3, 4, 7]
def res67 : List RV := [(.t 2)]
def c67 : CC :=
 (qR [qo 1 (.box (.t 0)), qo 2 (.mov (.c (.sl true 0 0 (.agg []) true)))]
 (qR [qo 5 (.mksl .u8 1 1 [(.u8 0)] (.c (.int 0)) (.c (.int 32))), qm 3 5]
 (.seq (qR [qj 4 7]
 (.block 0 (.loop (.seq (qR [qm 6 4, qb 7 .geq (.t 6) (.c (.int 0))]
 (.cond (.t 7)
 .skip
 (.exit 0)))
 (.seq (.block 1 (.reg [qz 10 3, qz 11 4, ⟨(some 12), (.iadA 8 1 (.t 1) (.t 11)), none, 0⟩, qk 13 12, ⟨(some 14), (.bin .shr (.t 13) (.c (.u64 24))), none, 0⟩, ⟨(some 15), (.conv .u32u8 (.t 14)), none, 0⟩, qz 16 4, ⟨(some 17), (.iadA 8 1 (.t 1) (.t 16)), none, 0⟩, qk 18 17, ⟨(some 19), (.bin .shr (.t 18) (.c (.u64 16))), none, 0⟩, ⟨(some 20), (.conv .u32u8 (.t 19)), none, 0⟩, qz 21 4, ⟨(some 22), (.iadA 8 1 (.t 1) (.t 21)), none, 0⟩, qk 23 22, ⟨(some 24), (.bin .shr (.t 23) (.c (.u64 8))), none, 0⟩, ⟨(some 25), (.conv .u32u8 (.t 24)), none, 0⟩, qz 26 4, ⟨(some 27), (.iadA 8 1 (.t 1) (.t 26)), none, 0⟩, qk 28 27, ⟨(some 29), (.conv .u32u8 (.t 28)), none, 0⟩, ⟨(some 30), (.bsl false .u8 1 4 [(.u8 0)] [(0, (1, (.t 15))), (1, (1, (.t 20))), (2, (1, (.t 25))), (3, (1, (.t 29)))]), none, 0⟩, qo 31 (.app true 1 1 (.t 10) (.t 30)), qz 3 31] []))
 (.reg [qm 8 4, qb 9 .sub (.t 8) (.c (.int 1)), qm 4 9] []))))))
 (qR [qm 32 3, qo 33 (.slcS 1 (.t 32) none (some (.c (.int 32))) (some (.c (.int 32)))), qm 2 33]
 .ret))))
theorem o67 : FnOK Tryz.prog 67 N67 res67 c67 := mkF [] pures Tryz.func67
-- sentinel/limb.From
def N68 : Nat := 15
def keep68 : List Nat := [0, 2, 3, 5]
def res68 : List RV := [(.c 2 (some 8))]
def c68 : CC :=
 (qR [qo 2 (.alloc (.agg [(.u32 0), (.u32 0), (.u32 0), (.u32 0), (.u32 0), (.u32 0), (.u32 0), (.u32 0)]))]
 (qR [qo 3 (.alloc (.agg [(.u32 0), (.u32 0), (.u32 0), (.u32 0), (.u32 0), (.u32 0), (.u32 0), (.u32 0)]))]
 (.seq (qR [qm 4 0, qb 5 .lss (.t 4) (.c (.int 0))]
 (.cond (.t 5)
 (qR [qo 6 (.load (some 8) (.t 3)), ⟨none, (.store (some 8) (.t 2) (.t 6)), none, 2⟩]
 .ret)
 .skip))
 (qR [qm 7 0, qo 8 (.conv .iu32 (.t 7)), qm 9 0, qb 10 .shr (.t 9) (.c (.u64 32)), qo 11 (.conv .iu32 (.t 10)), qo 12 (.iadA 8 1 (.t 3) (.c (.int 0))), qs 12 8, qo 13 (.iadA 8 1 (.t 3) (.c (.int 1))), qs 13 11]
 (qR [qo 14 (.load (some 8) (.t 3)), ⟨none, (.store (some 8) (.t 2) (.t 14)), none, 2⟩]
 .ret)))))
theorem o68 : FnOK Tryz.prog 68 N68 res68 c68 := mkF [] pures Tryz.func68
-- sentinel/sentinelref6.number
def N69 : Nat := 18
def keep69 : List Nat := [0, 2, 3, 4, 6]
def res69 : List RV := [(.t 2)]
def c69 : CC :=
 (qR [qj 2 0]
 (qR [qj 3 0]
 (.seq (qR [qj 4 0]
 (.block 0 (.loop (.seq (qR [qm 5 4, qb 6 .lss (.t 5) (.c (.int 8))]
 (.cond (.t 6)
 .skip
 (.exit 0)))
 (.seq (.block 1 (.reg [qm 9 3, qb 10 .shl (.t 9) (.c (.u64 8)), qm 11 0, qm 12 4, qi 13 1 11 12, ql 14 13, qo 15 (.conv .u8i (.t 14)), qb 16 .or (.t 10) (.t 15), qm 3 16] []))
 (.reg [qm 7 4, qb 8 .add (.t 7) (.c (.int 1)), qm 4 8] []))))))
 (qR [qm 17 3, qm 2 17]
 .ret))))
theorem o69 : FnOK Tryz.prog 69 N69 res69 c69 := mkF [] pures Tryz.func69
-- sentinel/sentinellaw5.within
def N70 : Nat := 15
def keep70 : List Nat := [0, 1, 4, 5, 10]
def res70 : List RV := [(.t 4)]
def c70 : CC :=
 (qR [qj 4 0]
 (qR [qm 6 0, qm 7 1, qb 8 .rem (.t 6) (.t 7), qm 5 8]
 (.seq (qR [qm 9 5, qb 10 .lss (.t 9) (.c (.int 0))]
 (.cond (.t 10)
 (.reg [qm 11 5, qm 12 1, qb 13 .add (.t 11) (.t 12), qm 5 13] [])
 .skip))
 (qR [qm 14 5, qm 4 14]
 .ret))))
theorem o70 : FnOK Tryz.prog 70 N70 res70 c70 := mkF [] pures Tryz.func70
-- sentinel/sentinellaw5.Name
def N71 : Nat := 33
def keep71 : List Nat := [0, 2, 3, 4, 10, 26]
def res71 : List RV := [(.t 2)]
def c71 : CC :=
 (qR [qo 2 (.mov (.c (.str [])))]
 (qR [qm 5 0, qo 6 (.conv (.strb true) (.t 5)), qm 3 6]
 (.seq (qR [qj 4 0]
 (.block 0 (.loop (.seq (qR [qm 7 4, qm 8 3, qg 9 8, qb 10 .lss (.t 7) (.t 9)]
 (.cond (.t 10)
 .skip
 (.exit 0)))
 (.seq (.block 1 (.reg [qm 13 3, qm 14 4, qm 15 3, qm 16 4, qi 17 1 15 16, ql 18 17, qo 19 (.conv .u8i (.t 18)), qc 20 70 [(.t 19), (.c (.int 94))], qb 21 .add (.c (.int 33)) (.t 20), qo 22 (.conv .iu8 (.t 21)), qi 23 1 13 14, qs 23 22] []))
 (.reg [qm 11 4, qb 12 .add (.t 11) (.c (.int 1)), qm 4 12] []))))))
 (.seq (qR [qm 24 3, qg 25 24, qo 26 (.eq false .sc (.t 25) (.c (.int 0)))]
 (.cond (.t 26)
 (qR [qo 2 (.mov (.c (.str [117])))]
 .ret)
 .skip))
 (qR [qm 27 3, qm 28 3, qg 29 28, qo 30 (.mn (.t 29) (.c (.int 16))), qo 31 (.slcS 1 (.t 27) none (some (.t 30)) none), qo 32 (.conv .bstr (.t 31)), qm 2 32]
 .ret)))))
theorem o71 : FnOK Tryz.prog 71 N71 res71 c71 := mkF [6] pures Tryz.func71
-- sentinel/sentinelref1.From
def N72 : Nat := 14
def keep72 : List Nat := [0, 2, 3, 5]
def res72 : List RV := [(.c 2 (some 8))]
def c72 : CC :=
 (qR [qo 2 (.alloc (.agg [(.u32 0), (.u32 0), (.u32 0), (.u32 0), (.u32 0), (.u32 0), (.u32 0), (.u32 0)]))]
 (qR [qo 3 (.alloc (.agg [(.u32 0), (.u32 0), (.u32 0), (.u32 0), (.u32 0), (.u32 0), (.u32 0), (.u32 0)]))]
 (.seq (qR [qm 4 0, qb 5 .gtr (.t 4) (.c (.int 0))]
 (.cond (.t 5)
 (.reg [qm 6 0, qo 7 (.conv .iu32 (.t 6)), qm 8 0, qb 9 .shr (.t 8) (.c (.u64 32)), qo 10 (.conv .iu32 (.t 9)), qo 11 (.iadA 8 1 (.t 3) (.c (.int 0))), qs 11 7, qo 12 (.iadA 8 1 (.t 3) (.c (.int 1))), qs 12 10] [])
 .skip))
 (qR [qo 13 (.load (some 8) (.t 3)), ⟨none, (.store (some 8) (.t 2) (.t 13)), none, 2⟩]
 .ret))))
theorem o72 : FnOK Tryz.prog 72 N72 res72 c72 := mkF [] pures Tryz.func72
-- sentinel/wire.named
def N73 : Nat := 28
def keep73 : List Nat := [0, 2, 3, 11, 13, 14, 15, 26]
def res73 : List RV := [(.t 2)]
def c73 : CC :=
 (qR [qo 2 (.mov (.c (.bool false)))]
 (.seq (qR [qm 4 0, qo 5 (.len true (.t 4)), qb 6 .lss (.t 5) (.c (.int 1)), qm 7 6, ⟨(some 8), (.mov (.t 0)), (some (7, false)), 2⟩, ⟨(some 9), (.len true (.t 8)), (some (7, false)), 2⟩, ⟨(some 10), (.bin .gtr (.t 9) (.c (.int 16))), (some (7, false)), 2⟩, qo 11 (.pick (.t 7) (.c (.bool true)) (.t 10))]
 (.cond (.t 11)
 (qR [qo 2 (.mov (.c (.bool false)))]
 .ret)
 .skip))
 (.seq (qR [qm 12 0, qo 13 (.len true (.t 12)), qj 14 0]
 (.block 0 (.loop (qR [qb 15 .lss (.t 14) (.t 13)]
 (.seq (.cond (.t 15)
 .skip
 (.exit 0))
 (.seq (.block 1 (qR [qm 16 14, qm 3 16]
 (qR [qm 17 0, qm 18 3, qo 19 (.idx (.t 17) (.t 18)), qb 20 .lss (.t 19) (.c (.u8 33)), qm 21 20, ⟨(some 22), (.mov (.t 0)), (some (21, false)), 2⟩, ⟨(some 23), (.mov (.t 3)), (some (21, false)), 2⟩, ⟨(some 24), (.idx (.t 22) (.t 23)), (some (21, false)), 2⟩, ⟨(some 25), (.bin .gtr (.t 24) (.c (.u8 126))), (some (21, false)), 2⟩, qo 26 (.pick (.t 21) (.c (.bool true)) (.t 25))]
 (.cond (.t 26)
 (qR [qo 2 (.mov (.c (.bool false)))]
 .ret)
 .skip))))
 (.reg [qb 27 .add (.t 14) (.c (.int 1)), qm 14 27] [])))))))
 (qR [qo 2 (.mov (.c (.bool true)))]
 .ret))))
theorem o73 : FnOK Tryz.prog 73 N73 res73 c73 := mkF [] pures Tryz.func73
-- sentinel/limb.Bits
def N74 : Nat := 19
def keep74 : List Nat := [0, 1, 2, 3, 5, 11]
def res74 : List RV := [(.t 2)]
def c74 : CC :=
 (qR [qo 1 (.box (.t 0)), qj 2 0]
 (.seq (qR [qj 3 7]
 (.block 0 (.loop (.seq (qR [qm 4 3, qb 5 .geq (.t 4) (.c (.int 0))]
 (.cond (.t 5)
 .skip
 (.exit 0)))
 (.seq (.block 1 (qR [qm 8 3, qo 9 (.iadA 8 1 (.t 1) (.t 8)), ql 10 9, qo 11 (.eq true .sc (.t 10) (.c (.u32 0)))]
 (.cond (.t 11)
 (qR [qm 12 3, qb 13 .mul (.c (.int 32)) (.t 12), qm 14 3, qo 15 (.iadA 8 1 (.t 1) (.t 14)), ql 16 15, qc 17 96 [(.t 16)], qb 18 .add (.t 13) (.t 17), qm 2 18]
 .ret)
 .skip)))
 (.reg [qm 6 3, qb 7 .sub (.t 6) (.c (.int 1)), qm 3 7] []))))))
 (qR [qj 2 0]
 .ret)))
theorem o74 : FnOK Tryz.prog 74 N74 res74 c74 := mkF [] pures Tryz.func74
-- sentinel/wire.at
def N75 : Nat := 14
def keep75 : List Nat := [0, 1, 2, 4, 5]
def res75 : List RV := [(.t 4)]
def c75 : CC :=
 (qR [qo 2 (.box (.t 0)), qo 4 (.mov (.c (.sl true 0 0 (.agg []) true)))]
 (qR [qo 6 (.load (some 8) (.t 2)), qc 7 67 [(.t 6)], qm 5 7]
 (qR [qm 8 5, qm 9 5, qg 10 9, qm 11 1, qb 12 .sub (.t 10) (.t 11), qo 13 (.slcS 1 (.t 8) (some (.t 12)) none none), qm 4 13]
 .ret)))
theorem o75 : FnOK Tryz.prog 75 N75 res75 c75 := mkF [] pures Tryz.func75
-- sentinel/sentinelref5.Name
def N76 : Nat := 28
def keep76 : List Nat := [0, 2, 3, 7, 19]
def res76 : List RV := [(.t 2)]
def c76 : CC :=
 (qR [qo 2 (.mov (.c (.bool false)))]
 (.seq (qR [qj 3 0]
 (.block 0 (.loop (.seq (qR [qm 4 3, qm 5 0, qo 6 (.len true (.t 5)), qb 7 .lss (.t 4) (.t 6)]
 (.cond (.t 7)
 .skip
 (.exit 0)))
 (.seq (.block 1 (qR [qm 10 0, qm 11 3, qo 12 (.idx (.t 10) (.t 11)), qb 13 .lss (.t 12) (.c (.u8 33)), qm 14 13, ⟨(some 15), (.mov (.t 0)), (some (14, false)), 2⟩, ⟨(some 16), (.mov (.t 3)), (some (14, false)), 2⟩, ⟨(some 17), (.idx (.t 15) (.t 16)), (some (14, false)), 2⟩, ⟨(some 18), (.bin .gtr (.t 17) (.c (.u8 126))), (some (14, false)), 2⟩, qo 19 (.pick (.t 14) (.c (.bool true)) (.t 18))]
 (.cond (.t 19)
 (qR [qo 2 (.mov (.c (.bool false)))]
 .ret)
 .skip)))
 (.reg [qm 8 3, qb 9 .add (.t 8) (.c (.int 1)), qm 3 9] []))))))
 (qR [qm 20 0, qo 21 (.len true (.t 20)), qb 22 .gtr (.t 21) (.c (.int 0)), qm 23 22, ⟨(some 24), (.mov (.t 0)), (some (23, true)), 2⟩, ⟨(some 25), (.len true (.t 24)), (some (23, true)), 2⟩, ⟨(some 26), (.bin .leq (.t 25) (.c (.int 16))), (some (23, true)), 2⟩, qo 27 (.pick (.t 23) (.t 26) (.c (.bool false))), qm 2 27]
 .ret)))
theorem o76 : FnOK Tryz.prog 76 N76 res76 c76 := mkF [] pures Tryz.func76
-- sentinel/sentinelref5.small
def N77 : Nat := 6
def keep77 : List Nat := [0, 1, 2]
def res77 : List RV := [(.t 2)]
def c77 : CC :=
 (qR [qo 1 (.box (.t 0)), qo 2 (.mov (.c (.bool false)))]
 (qR [qo 3 (.load (some 8) (.t 1)), qc 4 97 [(.t 3)], qb 5 .leq (.t 4) (.c (.int 32)), qm 2 5]
 .ret))
theorem o77 : FnOK Tryz.prog 77 N77 res77 c77 := mkF [] pures Tryz.func77
-- sentinel/sentinelref5.Four
def N78 : Nat := 6
def keep78 : List Nat := [0, 1, 2]
def res78 : List RV := [(.t 2)]
def c78 : CC :=
 (qR [qo 1 (.box (.t 0)), qo 2 (.mov (.c (.sl true 0 0 (.agg []) true)))]
 (qR [qo 3 (.load (some 8) (.t 1)), qc 4 98 [(.t 3)], qo 5 (.slcS 1 (.t 4) (some (.c (.int 28))) none none), qm 2 5]
 .ret))
theorem o78 : FnOK Tryz.prog 78 N78 res78 c78 := mkF [] pures Tryz.func78
-- sentinel/sentinelref5.eight
def N79 : Nat := 20
def keep79 : List Nat := [0, 2, 3, 4, 6]
def res79 : List RV := [(.t 2)]
def c79 : CC :=
 (qR [qo 2 (.mov (.c (.sl true 0 0 (.agg []) true)))]
 (qR [qo 3 (.mov (.c (.sl true 0 0 (.agg []) true)))]
 (.seq (qR [qj 4 0]
 (.block 0 (.loop (.seq (qR [qm 5 4, qb 6 .lss (.t 5) (.c (.int 8))]
 (.cond (.t 6)
 .skip
 (.exit 0)))
 (.seq (.block 1 (.reg [qm 9 3, qm 10 0, qm 11 4, qb 12 .mul (.c (.int 8)) (.t 11), qb 13 .sub (.c (.int 56)) (.t 12), qo 14 (.conv .iu64 (.t 13)), qb 15 .shr (.t 10) (.t 14), qo 16 (.conv .iu8 (.t 15)), qo 17 (.bsl false .u8 1 1 [(.u8 0)] [(0, (1, (.t 16)))]), qo 18 (.app true 1 1 (.t 9) (.t 17)), qm 3 18] []))
 (.reg [qm 7 4, qb 8 .add (.t 7) (.c (.int 1)), qm 4 8] []))))))
 (qR [qm 19 3, qm 2 19]
 .ret))))
theorem o79 : FnOK Tryz.prog 79 N79 res79 c79 := mkF [] pures Tryz.func79
-- (*sentinel/sentinelref6.Vault).step
def N80 : Nat := 29
def keep80 : List Nat := [0, 2, 13, 21]
def res80 : List RV := [(.t 2)]
def c80 : CC :=
 (qR [qo 2 (.mov (.c (.bool false)))]
 (.seq (qR [qm 3 0, qn 4 3, qf 5 2 4, ql 6 5, qm 7 6, ⟨(some 8), (.mov (.t 0)), (some (7, false)), 2⟩, ⟨(some 9), (.nilck (.t 8)), (some (7, false)), 2⟩, ⟨(some 10), (.fad 1 (.t 9)), (some (7, false)), 2⟩, ⟨(some 11), (.load none (.t 10)), (some (7, false)), 2⟩, ⟨(some 12), (.eq false .sc (.t 11) (.c (.int 0))), (some (7, false)), 2⟩, qo 13 (.pick (.t 7) (.c (.bool true)) (.t 12))]
 (.cond (.t 13)
 (qR [qm 14 0, qn 15 14, qf 16 2 15, ⟨none, (.store none (.t 16) (.c (.bool true))), none, 2⟩]
 (qR [qo 2 (.mov (.c (.bool false)))]
 .ret))
 .skip))
 (.seq (qR [qm 17 0, qn 18 17, qf 19 1 18, ql 20 19, qb 21 .gtr (.t 20) (.c (.int 0))]
 (.cond (.t 21)
 (.reg [qm 22 0, qn 23 22, qf 24 1 23, ql 25 24, qb 26 .sub (.t 25) (.c (.int 1)), qn 27 22, qf 28 1 27, qs 28 26] [])
 .skip))
 (qR [qo 2 (.mov (.c (.bool true)))]
 .ret))))
theorem o80 : FnOK Tryz.prog 80 N80 res80 c80 := mkF [] pures Tryz.func80
-- sentinel/sentinelref6.said
def N81 : Nat := 27
def keep81 : List Nat := [0, 1, 2, 6, 7]
def res81 : List RV := [(.t 6)]
def c81 : CC :=
 (qR [qo 6 (.mov (.c (.sl true 0 0 (.agg []) true)))]
 (qR [qm 8 1, qc 9 30 [(.t 8)], qm 10 2, qg 11 10, qo 12 (.conv .iu8 (.t 11)), qo 13 (.bsl false .u8 1 1 [(.u8 0)] [(0, (1, (.t 12)))]), qo 14 (.app true 1 1 (.t 9) (.t 13)), qm 15 2, qo 16 (.app true 1 1 (.t 14) (.t 15)), qm 7 16]
 (qR [qm 17 7, qo 18 (.bsl false .u8 1 4 [(.u8 0)] [(0, (1, (.c (.u8 99)))), (1, (1, (.c (.u8 101)))), (2, (1, (.c (.u8 108)))), (3, (1, (.c (.u8 108))))]), qo 19 (.conv .mark (.t 18)), qm 20 0, qc 21 30 [(.t 20)], qm 22 7, qo 23 (.bsl false .other 1 3 [(.sl true 0 0 (.agg []) true)] [(0, (1, (.t 19))), (1, (1, (.t 21))), (2, (1, (.t 22)))]), qc 24 29 [(.t 23)], qc 25 31 [(.t 24)], qo 26 (.app true 1 1 (.t 17) (.t 25)), qm 6 26]
 .ret)))
theorem o81 : FnOK Tryz.prog 81 N81 res81 c81 := mkF [] (pures ++ [3029]) Tryz.func81
-- (*sentinel/vault.Vault).records$1
def N82 : Nat := 32
def keep82 : List Nat := [0, 1, 3, 5, 6, 7, 8, 9, 30]
def res82 : List RV := []
def c82 : CC :=
 (qR [qj 8 0]
 (.block 0 (.loop (qR [qb 9 .lss (.t 8) (.c (.int 8))]
 (.seq (.cond (.t 9)
 .skip
 (.exit 0))
 (.seq (.block 1 (qR [qm 10 8, qm 3 10]
 (qR [ql 12 1, qm 13 3, qc 14 54 [(.t 12), (.t 13)], qm 11 14, qe 15 11 0, qe 16 11 1, qo 5 (.alloc (.agg [(.int 0), (.sl true 0 0 (.agg []) true)])), qm 4 15, ⟨none, (.store (some 2) (.t 5) (.t 16)), none, 2⟩]
 (qR [qf 18 1 5, ql 19 18, qc 20 83 [(.t 19)], qm 17 20, qe 21 17 0, qe 22 17 1, qo 6 (.alloc qv), ⟨none, (.store (some 23) (.t 6) (.t 21)), none, 2⟩, qm 7 22]
 (qR [qm 23 7, qm 24 23, ⟨(some 25), (.mov (.t 0)), (some (24, true)), 2⟩, ⟨(some 26), (.mov (.t 3)), (some (24, true)), 2⟩, ⟨(some 27), (.load (some 23) (.t 6)), (some (24, true)), 2⟩, ⟨(some 28), (.call (.t 25) [(.t 26), (.t 27)]), (some (24, true)), 2⟩, ⟨(some 29), (.un .not (.t 28)), (some (24, true)), 2⟩, qo 30 (.pick (.t 24) (.t 29) (.c (.bool false)))]
 (.cond (.t 30)
 .ret
 .skip))))))
 (.reg [qb 31 .add (.t 8) (.c (.int 1)), qm 8 31] [])))))))
theorem o82 : FnOK Tryz.prog 82 N82 res82 c82 := mkF [] pures Tryz.func82
theorem it82 : ITok Tryz.prog (tiOf Tryz.prog) 82 ⟨c82, N82, keep82⟩ := ⟨_, Tryz.f82.body.getD .skip, [], pures, Tryz.func82, by kernel_rfl, by kernel_rfl, by kernel_rfl, by kernel_rfl, by kernel_rfl, by kernel_rfl, callFunc_enter Tryz.func82 (by kernel_rfl) (by kernel_rfl)⟩
-- sentinel/wire.ReadRecord
def N83 : Nat := 60
def keep83 : List Nat := [0, 2, 3, 4, 5, 6, 7, 57]
def res83 : List RV := [(.c 2 (some 23)), (.t 3)]
def c83 : CC :=
 (qR [qo 2 (.alloc qv), qo 3 (.mov (.c (.bool false)))]
 (qR [qm 8 0, qo 9 (.build [(.sl true 0 0 (.agg []) true), (.bool false)] [(0, (1, (.t 8)))]), qo 10 (.box (.t 9)), qm 4 10]
 (qR [qm 11 4, qc 12 99 [(.t 11), (.c (.int 1))], qo 13 (.build [(.int 0), (.str []), (.sl true 0 0 (.agg []) true), (.u32 0), (.u32 0), (.u32 0), (.u32 0), (.u32 0), (.u32 0), (.u32 0), (.u32 0), (.u32 0), (.u32 0), (.u32 0), (.u32 0), (.u32 0), (.u32 0), (.u32 0), (.u32 0), (.sl true 0 0 (.agg []) true), (.int 0), (.int 0), (.int 0)] [(0, (1, (.t 12)))]), qo 5 (.alloc qv), ⟨none, (.store (some 23) (.t 5) (.t 13)), none, 2⟩]
 (qR [qm 14 4, qc 15 100 [(.t 14)], qo 16 (.conv .bstr (.t 15)), qf 17 1 5, qs 17 16]
 (qR [qm 18 4, qc 19 100 [(.t 18)], qf 20 2 5, qs 20 19]
 (qR [qm 21 4, qc 22 100 [(.t 21)], qf 23 19 5, qs 23 22]
 (qR [qm 24 4, qc 25 101 [(.t 24), (.c (.int 4))], qf 26 3 5, ⟨none, (.store (some 8) (.t 26) (.t 25)), none, 2⟩]
 (qR [qm 27 4, qc 28 101 [(.t 27), (.c (.int 4))], qf 29 11 5, ⟨none, (.store (some 8) (.t 29) (.t 28)), none, 2⟩]
 (qR [qm 30 4, qc 31 99 [(.t 30), (.c (.int 1))], qf 32 20 5, qs 32 31]
 (qR [qm 33 4, qc 34 99 [(.t 33), (.c (.int 8))], qf 35 21 5, qs 35 34]
 (qR [qm 36 4, qc 37 99 [(.t 36), (.c (.int 8))], qf 38 22 5, qs 38 37]
 (qR [qo 40 (.load (some 23) (.t 5)), qc 41 43 [(.t 40)], qm 39 41, qe 42 39 0, qe 43 39 1, qm 6 42, qm 7 43]
 (.seq (qR [qm 44 7, qo 45 (.un .not (.t 44)), qm 46 45, ⟨(some 47), (.mov (.t 4)), (some (46, false)), 2⟩, ⟨(some 48), (.nilck (.t 47)), (some (46, false)), 2⟩, ⟨(some 49), (.fad 1 (.t 48)), (some (46, false)), 2⟩, ⟨(some 50), (.load none (.t 49)), (some (46, false)), 2⟩, qo 51 (.pick (.t 46) (.c (.bool true)) (.t 50)), qm 52 51, ⟨(some 53), (.mov (.t 6)), (some (52, false)), 2⟩, ⟨(some 54), (.mov (.t 0)), (some (52, false)), 2⟩, ⟨(some 55), (.call (.c (.fn 102 [])) [(.t 53), (.t 54)]), (some (52, false)), 2⟩, ⟨(some 56), (.un .not (.t 55)), (some (52, false)), 2⟩, qo 57 (.pick (.t 52) (.c (.bool true)) (.t 56))]
 (.cond (.t 57)
 (qR [qo 58 (.build [(.int 0), (.str []), (.sl true 0 0 (.agg []) true), (.u32 0), (.u32 0), (.u32 0), (.u32 0), (.u32 0), (.u32 0), (.u32 0), (.u32 0), (.u32 0), (.u32 0), (.u32 0), (.u32 0), (.u32 0), (.u32 0), (.u32 0), (.u32 0), (.sl true 0 0 (.agg []) true), (.int 0), (.int 0), (.int 0)] []), ⟨none, (.store (some 23) (.t 2) (.t 58)), none, 2⟩, qo 3 (.mov (.c (.bool false)))]
 .ret)
 .skip))
 (qR [qo 59 (.load (some 23) (.t 5)), ⟨none, (.store (some 23) (.t 2) (.t 59)), none, 2⟩, qo 3 (.mov (.c (.bool true)))]
 .ret))))))))))))))
theorem o83 : FnOK Tryz.prog 83 N83 res83 c83 := mkF [] pures Tryz.func83
-- slices.pdqsortOrdered[string]
def N84 : Nat := 134
def keep84 : List Nat := [0, 1, 2, 3, 8, 9, 10, 11, 12, 13, 14, 15, 16, 17, 18, 23, 29, 35, 50, 68, 72, 87, 113]
def res84 : List RV := []
def c84 : CC :=
 (qR [qo 8 (.mov (.c (.bool true)))]
 (qR [qo 9 (.mov (.c (.bool true)))]
 (.block 0 (.loop (.block 1 (qR [qm 19 2, qm 20 1, qb 21 .sub (.t 19) (.t 20), qm 10 21]
 (.seq (qR [qm 22 10, qb 23 .leq (.t 22) (.c (.int 12))]
 (.cond (.t 23)
 (qR [qm 24 0, qm 25 1, qm 26 2, qc 27 103 [(.t 24), (.t 25), (.t 26)]]
 .ret)
 .skip))
 (.seq (qR [qm 28 3, qo 29 (.eq false .sc (.t 28) (.c (.int 0)))]
 (.cond (.t 29)
 (qR [qm 30 0, qm 31 1, qm 32 2, qc 33 104 [(.t 30), (.t 31), (.t 32)]]
 .ret)
 .skip))
 (.seq (qR [qm 34 8, qo 35 (.un .not (.t 34))]
 (.cond (.t 35)
 (qR [qm 36 0, qm 37 1, qm 38 2, qc 39 105 [(.t 36), (.t 37), (.t 38)]]
 (.reg [qm 40 3, qb 41 .sub (.t 40) (.c (.int 1)), qm 3 41] []))
 .skip))
 (qR [qm 43 0, qm 44 1, qm 45 2, qc 46 106 [(.t 43), (.t 44), (.t 45)], qm 42 46, qe 47 42 0, qe 48 42 1, qm 11 47, qm 12 48]
 (.seq (qR [qm 49 12, qo 50 (.eq false .sc (.t 49) (.c (.int 2)))]
 (.cond (.t 50)
 (qR [qm 51 0, qm 52 1, qm 53 2, qc 54 107 [(.t 51), (.t 52), (.t 53)]]
 (qR [qm 55 2, qb 56 .sub (.t 55) (.c (.int 1)), qm 57 11, qm 58 1, qb 59 .sub (.t 57) (.t 58), qb 60 .sub (.t 56) (.t 59), qm 11 60]
 (.reg [qj 12 1] [])))
 .skip))
 (.seq (qR [qm 61 8, qm 62 61, ⟨(some 63), (.mov (.t 9)), (some (62, true)), 2⟩, qo 64 (.pick (.t 62) (.t 63) (.c (.bool false))), qm 65 64, ⟨(some 66), (.mov (.t 12)), (some (65, true)), 2⟩, ⟨(some 67), (.eq false .sc (.t 66) (.c (.int 1))), (some (65, true)), 2⟩, qo 68 (.pick (.t 65) (.t 67) (.c (.bool false)))]
 (.cond (.t 68)
 (qR [qm 69 0, qm 70 1, qm 71 2, qc 72 108 [(.t 69), (.t 70), (.t 71)]]
 (.cond (.t 72)
 .ret
 .skip))
 .skip))
 (.seq (qR [qz 73 1, ⟨(some 74), (.bin .gtr (.t 73) (.c (.int 0))), none, 0⟩, qz 75 74, ⟨(some 76), (.mov (.t 0)), (some (75, true)), 0⟩, ⟨(some 77), (.mov (.t 1)), (some (75, true)), 0⟩, ⟨(some 78), (.bin .sub (.t 77) (.c (.int 1))), (some (75, true)), 0⟩, ⟨(some 79), (.iadS 1 (.t 76) (.t 78)), (some (75, true)), 1⟩, ⟨(some 80), (.load none (.t 79)), (some (75, true)), 1⟩, ⟨(some 81), (.mov (.t 0)), (some (75, true)), 0⟩, ⟨(some 82), (.mov (.t 11)), (some (75, true)), 0⟩, ⟨(some 83), (.iadS 1 (.t 81) (.t 82)), (some (75, true)), 1⟩, ⟨(some 84), (.load none (.t 83)), (some (75, true)), 1⟩, ⟨(some 85), (.call (.c (.fn 109 [])) [(.t 80), (.t 84)]), (some (75, true)), 0⟩, ⟨(some 86), (.un .not (.t 85)), (some (75, true)), 0⟩, ⟨(some 87), (.pick (.t 75) (.t 86) (.c (.bool false))), none, 0⟩]
 (.cond (.t 87)
 (qR [qm 88 0, qm 89 1, qm 90 2, qm 91 11, qc 92 110 [(.t 88), (.t 89), (.t 90), (.t 91)], qm 13 92]
 (qR [qm 93 13, qm 1 93]
 (.exit 1)))
 .skip))
 (qR [qm 95 0, qm 96 1, qm 97 2, qm 98 11, qc 99 111 [(.t 95), (.t 96), (.t 97), (.t 98)], qm 94 99, qe 100 94 0, qe 101 94 1, qm 14 100, qm 15 101]
 (qR [qm 102 15, qm 9 102]
 (qR [qm 103 14, qm 104 1, qb 105 .sub (.t 103) (.t 104), qm 106 2, qm 107 14, qb 108 .sub (.t 106) (.t 107), qm 16 105, qm 17 108]
 (qR [qm 109 10, qb 110 .quo (.t 109) (.c (.int 8)), qm 18 110]
 (qR [qm 111 16, qm 112 17, qb 113 .lss (.t 111) (.t 112)]
 (.cond (.t 113)
 (qR [qm 114 16, qm 115 18, qb 116 .geq (.t 114) (.t 115), qm 8 116]
 (qR [qm 117 0, qm 118 1, qm 119 14, qm 120 3, qc 121 84 [(.t 117), (.t 118), (.t 119), (.t 120)]]
 (.reg [qm 122 14, qb 123 .add (.t 122) (.c (.int 1)), qm 1 123] [])))
 (qR [qm 124 17, qm 125 18, qb 126 .geq (.t 124) (.t 125), qm 8 126]
 (qR [qm 127 0, qm 128 14, qb 129 .add (.t 128) (.c (.int 1)), qm 130 2, qm 131 3, qc 132 84 [(.t 127), (.t 129), (.t 130), (.t 131)]]
 (.reg [qm 133 14, qm 2 133] []))))))))))))))))))))))
theorem o84 : FnOK Tryz.prog 84 N84 res84 c84 := mkF [] pures Tryz.func84
-- math/bits.Len
def N85 : Nat := 8
def keep85 : List Nat := [0, 2]
def res85 : List RV := [(.t 2)]
def c85 : CC :=
 (qR [qj 2 0]
 (.seq (.cond (.c (.bool false))
 (qR [qm 3 0, qo 4 (.conv .u64u32 (.t 3)), qc 5 96 [(.t 4)], qm 2 5]
 .ret)
 .skip)
 (qR [qm 6 0, qc 7 112 [(.t 6)], qm 2 7]
 .ret)))
theorem o85 : FnOK Tryz.prog 85 N85 res85 c85 := mkF [] pures Tryz.func85
-- sentinel/vault.read
def N86 : Nat := 36
def keep86 : List Nat := [0, 1, 4, 5, 6, 19]
def res86 : List RV := [(.c 4 (some 2)), (.t 5)]
def c86 : CC :=
 (qR [qo 4 (.alloc (.agg [(.int 0), (.sl true 0 0 (.agg []) true)])), qo 5 (.mov (.c (.bool false)))]
 (.seq (qR [qm 7 1, qg 8 7, qb 9 .lss (.t 8) (.c (.int 25)), qm 10 9, ⟨(some 11), (.mov (.t 1)), (some (10, false)), 2⟩, ⟨(some 12), (.len false (.t 11)), (some (10, false)), 2⟩, ⟨(some 13), (.mov (.t 1)), (some (10, false)), 2⟩, ⟨(some 14), (.iadS 1 (.t 13) (.c (.int 8))), (some (10, false)), 2⟩, ⟨(some 15), (.load none (.t 14)), (some (10, false)), 2⟩, ⟨(some 16), (.conv .u8i (.t 15)), (some (10, false)), 2⟩, ⟨(some 17), (.bin .add (.c (.int 25)) (.t 16)), (some (10, false)), 2⟩, ⟨(some 18), (.eq true .sc (.t 12) (.t 17)), (some (10, false)), 2⟩, qo 19 (.pick (.t 10) (.c (.bool true)) (.t 18))]
 (.cond (.t 19)
 (qR [qo 20 (.build [(.int 0), (.sl true 0 0 (.agg []) true)] []), ⟨none, (.store (some 2) (.t 4) (.t 20)), none, 2⟩, qo 5 (.mov (.c (.bool false)))]
 .ret)
 .skip))
 (qR [qz 21 1, ⟨(some 22), (.slcS 1 (.t 21) none (some (.c (.int 8))) none), none, 0⟩, ⟨(some 23), (.call (.c (.fn 55 [])) [(.t 22)]), none, 0⟩, qz 24 1, qz 25 1, ⟨(some 26), (.len false (.t 25)), none, 0⟩, ⟨(some 27), (.bin .sub (.t 26) (.c (.int 16))), none, 0⟩, ⟨(some 28), (.slcS 1 (.t 24) (some (.c (.int 9))) (some (.t 27)) none), none, 0⟩, ⟨(some 29), (.build [(.int 0), (.sl true 0 0 (.agg []) true)] [(0, (1, (.t 23))), (1, (1, (.t 28)))]), none, 0⟩, qo 6 (.alloc (.agg [(.int 0), (.sl true 0 0 (.agg []) true)])), ⟨none, (.store (some 2) (.t 6) (.t 29)), none, 2⟩]
 (qR [⟨(some 30), (.load (some 2) (.t 6)), none, 1⟩, qz 31 0, ⟨(some 32), (.load (some 2) (.t 6)), none, 1⟩, ⟨(some 33), (.call (.c (.fn 63 [])) [(.t 31), (.t 32)]), none, 0⟩, qz 34 1, ⟨(some 35), (.call (.c (.fn 102 [])) [(.t 33), (.t 34)]), none, 0⟩, ⟨none, (.store (some 2) (.t 4) (.t 30)), none, 2⟩, qz 5 35]
 .ret))))
theorem o86 : FnOK Tryz.prog 86 N86 res86 c86 := mkF [] pures Tryz.func86
-- sentinel/limb.Read
def N87 : Nat := 38
def keep87 : List Nat := [0, 2, 3, 4, 5, 6, 7, 10, 12, 13, 14, 15]
def res87 : List RV := [(.c 2 (some 8)), (.t 3)]
def c87 : CC :=
 (qR [qo 2 (.alloc (.agg [(.u32 0), (.u32 0), (.u32 0), (.u32 0), (.u32 0), (.u32 0), (.u32 0), (.u32 0)])), qo 3 (.mov (.c (.bool false)))]
 (qR [qo 4 (.alloc (.agg [(.u32 0), (.u32 0), (.u32 0), (.u32 0), (.u32 0), (.u32 0), (.u32 0), (.u32 0)]))]
 (.seq (qR [qm 8 0, qg 9 8, qb 10 .gtr (.t 9) (.c (.int 32))]
 (.cond (.t 10)
 (qR [qo 11 (.load (some 8) (.t 4)), ⟨none, (.store (some 8) (.t 2) (.t 11)), none, 2⟩, qo 3 (.mov (.c (.bool false)))]
 .ret)
 .skip))
 (.seq (qR [qm 12 0, qg 13 12, qj 14 0]
 (.block 0 (.loop (qR [qb 15 .lss (.t 14) (.t 13)]
 (.seq (.cond (.t 15)
 .skip
 (.exit 0))
 (.seq (.block 1 (qR [qm 16 14, qi 17 1 12 14, ql 18 17, qm 5 16, qm 6 18]
 (qR [qm 19 0, qg 20 19, qb 21 .sub (.t 20) (.c (.int 1)), qm 22 5, qb 23 .sub (.t 21) (.t 22), qm 7 23]
 (.reg [qz 24 7, ⟨(some 25), (.bin .quo (.t 24) (.c (.int 4))), none, 0⟩, ⟨(some 26), (.iadA 8 1 (.t 4) (.t 25)), none, 0⟩, qk 27 26, qz 28 6, ⟨(some 29), (.conv .u8u32 (.t 28)), none, 0⟩, qz 30 7, ⟨(some 31), (.bin .rem (.t 30) (.c (.int 4))), none, 0⟩, ⟨(some 32), (.bin .mul (.c (.int 8)) (.t 31)), none, 0⟩, ⟨(some 33), (.bin .shl (.t 29) (.t 32)), none, 0⟩, ⟨(some 34), (.bin .or (.t 27) (.t 33)), none, 0⟩, ⟨(some 35), (.iadA 8 1 (.t 4) (.t 25)), none, 0⟩, qs 35 34] []))))
 (.reg [qb 36 .add (.t 14) (.c (.int 1)), qm 14 36] [])))))))
 (qR [qo 37 (.load (some 8) (.t 4)), ⟨none, (.store (some 8) (.t 2) (.t 37)), none, 2⟩, qo 3 (.mov (.c (.bool true)))]
 .ret)))))
theorem o87 : FnOK Tryz.prog 87 N87 res87 c87 := mkF [] pures Tryz.func87
-- slices.Grow[[]byte,byte]
def N88 : Nat := 27
def keep88 : List Nat := [0, 1, 4, 6, 16]
def res88 : List RV := [(.t 4)]
def c88 : CC :=
 (qR [qo 4 (.mov (.c (.sl true 0 0 (.agg []) true)))]
 (.seq (qR [qm 5 1, qb 6 .lss (.t 5) (.c (.int 0))]
 (.cond (.t 6)
 (.reg [qo 7 (.mki 9 (.c (.str [99, 97, 110, 110, 111, 116, 32, 98, 101, 32, 110, 101, 103, 97, 116, 105, 118, 101]))), ⟨none, .bad, none, 2⟩] [])
 .skip))
 (.seq (qR [qm 8 1, qm 9 0, qo 10 (.cap (.t 9)), qm 11 0, qg 12 11, qb 13 .sub (.t 10) (.t 12), qb 14 .sub (.t 8) (.t 13), qm 1 14]
 (qR [qm 15 1, qb 16 .gtr (.t 15) (.c (.int 0))]
 (.cond (.t 16)
 (.reg [qm 17 0, qm 18 0, qo 19 (.cap (.t 18)), qo 20 (.slcS 1 (.t 17) none (some (.t 19)) none), qm 21 1, ⟨(some 22), .bad, none, 2⟩, qm 23 0, qg 24 23, qo 25 (.slcS 1 (.t 22) none (some (.t 24)) none), qm 0 25] [])
 .skip)))
 (qR [qm 26 0, qm 4 26]
 .ret))))
theorem o88 : FnOK Tryz.prog 88 N88 res88 c88 := mkF [] pures Tryz.func88
-- sentinel/sentinelref6.good
def N89 : Nat := 39
def keep89 : List Nat := [0, 1, 4, 5, 6, 7, 8, 21]
def res89 : List RV := [(.t 4), (.t 5), (.t 6)]
def c89 : CC :=
 (qR [qj 4 0, qo 5 (.mov (.c (.sl true 0 0 (.agg []) true))), qo 6 (.mov (.c (.bool false)))]
 (.seq (qR [qm 9 1, qg 10 9, qb 11 .lss (.t 10) (.c (.int 25)), qm 12 11, ⟨(some 13), (.mov (.t 1)), (some (12, false)), 2⟩, ⟨(some 14), (.len false (.t 13)), (some (12, false)), 2⟩, ⟨(some 15), (.mov (.t 1)), (some (12, false)), 2⟩, ⟨(some 16), (.iadS 1 (.t 15) (.c (.int 8))), (some (12, false)), 2⟩, ⟨(some 17), (.load none (.t 16)), (some (12, false)), 2⟩, ⟨(some 18), (.conv .u8i (.t 17)), (some (12, false)), 2⟩, ⟨(some 19), (.bin .add (.c (.int 25)) (.t 18)), (some (12, false)), 2⟩, ⟨(some 20), (.eq true .sc (.t 14) (.t 19)), (some (12, false)), 2⟩, qo 21 (.pick (.t 12) (.c (.bool true)) (.t 20))]
 (.cond (.t 21)
 (qR [qj 4 0, qo 5 (.mov (.c (.sl true 0 0 (.agg []) true))), qo 6 (.mov (.c (.bool false)))]
 .ret)
 .skip))
 (qR [qm 22 1, qc 23 69 [(.t 22)], qm 7 23]
 (qR [qm 24 1, qm 25 1, qg 26 25, qb 27 .sub (.t 26) (.c (.int 16)), qo 28 (.slcS 1 (.t 24) (some (.c (.int 9))) (some (.t 27)) none), qm 8 28]
 (qR [qz 29 7, qz 30 8, qz 31 0, qz 32 7, qz 33 8, ⟨(some 34), (.call (.c (.fn 81 [])) [(.t 31), (.t 32), (.t 33)]), none, 0⟩, ⟨(some 35), (.conv .bstr (.t 34)), none, 1⟩, qz 36 1, ⟨(some 37), (.conv .bstr (.t 36)), none, 1⟩, ⟨(some 38), (.eq false .sc (.t 35) (.t 37)), none, 0⟩, qz 4 29, qz 5 30, qz 6 38]
 .ret)))))
theorem o89 : FnOK Tryz.prog 89 N89 res89 c89 := mkF [] pures Tryz.func89
-- sentinel/sentinelref5.number
def N90 : Nat := 24
def keep90 : List Nat := [0, 2, 3, 4, 12]
def res90 : List RV := [(.t 2)]
def c90 : CC :=
 (qR [qj 2 0]
 (qR [qj 3 0]
 (.seq (qR [qj 4 0]
 (.block 0 (.loop (.seq (qR [qm 5 4, qm 6 0, qg 7 6, qb 8 .lss (.t 5) (.t 7), qm 9 8, ⟨(some 10), (.mov (.t 4)), (some (9, true)), 2⟩, ⟨(some 11), (.bin .lss (.t 10) (.c (.int 8))), (some (9, true)), 2⟩, qo 12 (.pick (.t 9) (.t 11) (.c (.bool false)))]
 (.cond (.t 12)
 .skip
 (.exit 0)))
 (.seq (.block 1 (.reg [qm 15 3, qb 16 .shl (.t 15) (.c (.u64 8)), qm 17 0, qm 18 4, qi 19 1 17 18, ql 20 19, qo 21 (.conv .u8i (.t 20)), qb 22 .or (.t 16) (.t 21), qm 3 22] []))
 (.reg [qm 13 4, qb 14 .add (.t 13) (.c (.int 1)), qm 4 14] []))))))
 (qR [qm 23 3, qm 2 23]
 .ret))))
theorem o90 : FnOK Tryz.prog 90 N90 res90 c90 := mkF [] pures Tryz.func90
-- (*sentinel/sentinelref5.reader).take
def N91 : Nat := 39
def keep91 : List Nat := [0, 1, 4, 5, 12]
def res91 : List RV := [(.t 4)]
def c91 : CC :=
 (qR [qo 4 (.mov (.c (.sl true 0 0 (.agg []) true)))]
 (.seq (qR [qm 6 1, qm 7 0, qn 8 7, qf 9 0 8, ql 10 9, qg 11 10, qb 12 .gtr (.t 6) (.t 11)]
 (.cond (.t 12)
 (qR [qm 13 0, qm 14 0, qn 15 13, qf 16 1 15, ⟨none, (.store none (.t 16) (.c (.bool true))), none, 2⟩, qn 17 14, qf 18 0 17, ⟨none, (.store none (.t 18) (.c (.sl true 0 0 (.agg []) true))), none, 2⟩]
 (qR [qm 19 1, qo 20 (.mksl .u8 1 1 [(.u8 0)] (.t 19) (.t 19)), qm 4 20]
 .ret))
 .skip))
 (qR [qo 21 (.bsl false .u8 1 0 [(.u8 0)] []), qm 22 0, qn 23 22, qf 24 0 23, ql 25 24, qm 26 1, qo 27 (.slcS 1 (.t 25) none (some (.t 26)) none), qo 28 (.app true 1 1 (.t 21) (.t 27)), qm 5 28]
 (qR [qm 29 0, qm 30 0, qn 31 30, qf 32 0 31, ql 33 32, qm 34 1, qo 35 (.slcS 1 (.t 33) (some (.t 34)) none none), qn 36 29, qf 37 0 36, qs 37 35]
 (qR [qm 38 5, qm 4 38]
 .ret)))))
theorem o91 : FnOK Tryz.prog 91 N91 res91 c91 := mkF [] pures Tryz.func91
-- sentinel/sentinelref1.Read
def N92 : Nat := 41
def keep92 : List Nat := [0, 2, 3, 4, 5, 6, 9, 14]
def res92 : List RV := [(.c 2 (some 8)), (.t 3)]
def c92 : CC :=
 (qR [qo 2 (.alloc (.agg [(.u32 0), (.u32 0), (.u32 0), (.u32 0), (.u32 0), (.u32 0), (.u32 0), (.u32 0)])), qo 3 (.mov (.c (.bool false)))]
 (qR [qo 4 (.alloc (.agg [(.u32 0), (.u32 0), (.u32 0), (.u32 0), (.u32 0), (.u32 0), (.u32 0), (.u32 0)]))]
 (.seq (qR [qm 7 0, qg 8 7, qb 9 .gtr (.t 8) (.c (.int 32))]
 (.cond (.t 9)
 (qR [qo 10 (.load (some 8) (.t 4)), ⟨none, (.store (some 8) (.t 2) (.t 10)), none, 2⟩, qo 3 (.mov (.c (.bool false)))]
 .ret)
 .skip))
 (.seq (qR [qj 5 0]
 (.block 0 (.loop (.seq (qR [qm 11 5, qm 12 0, qg 13 12, qb 14 .lss (.t 11) (.t 13)]
 (.cond (.t 14)
 .skip
 (.exit 0)))
 (.seq (.block 1 (qR [qm 17 0, qg 18 17, qb 19 .sub (.t 18) (.c (.int 1)), qm 20 5, qb 21 .sub (.t 19) (.t 20), qm 6 21]
 (.reg [qz 22 6, ⟨(some 23), (.bin .quo (.t 22) (.c (.int 4))), none, 0⟩, qz 24 6, ⟨(some 25), (.bin .quo (.t 24) (.c (.int 4))), none, 0⟩, ⟨(some 26), (.iadA 8 1 (.t 4) (.t 25)), none, 0⟩, qk 27 26, qz 28 0, qz 29 5, ⟨(some 30), (.iadS 1 (.t 28) (.t 29)), none, 1⟩, qk 31 30, ⟨(some 32), (.conv .u8u32 (.t 31)), none, 0⟩, qz 33 6, ⟨(some 34), (.bin .rem (.t 33) (.c (.int 4))), none, 0⟩, ⟨(some 35), (.bin .mul (.c (.int 8)) (.t 34)), none, 0⟩, ⟨(some 36), (.conv .iu64 (.t 35)), none, 0⟩, ⟨(some 37), (.bin .shl (.t 32) (.t 36)), none, 0⟩, ⟨(some 38), (.bin .or (.t 27) (.t 37)), none, 0⟩, ⟨(some 39), (.iadA 8 1 (.t 4) (.t 23)), none, 0⟩, qs 39 38] [])))
 (.reg [qm 15 5, qb 16 .add (.t 15) (.c (.int 1)), qm 5 16] []))))))
 (qR [qo 40 (.load (some 8) (.t 4)), ⟨none, (.store (some 8) (.t 2) (.t 40)), none, 2⟩, qo 3 (.mov (.c (.bool true)))]
 .ret)))))
theorem o92 : FnOK Tryz.prog 92 N92 res92 c92 := mkF [] pures Tryz.func92
-- sentinel/sentinelref3.padded
def N93 : Nat := 15
def keep93 : List Nat := [0, 2, 3, 10]
def res93 : List RV := [(.t 2)]
def c93 : CC :=
 (qR [qo 2 (.mov (.c (.sl true 0 0 (.agg []) true)))]
 (qR [qo 4 (.bsl false .u8 1 0 [(.u8 0)] []), qm 5 0, qo 6 (.app true 1 1 (.t 4) (.t 5)), qm 3 6]
 (.seq (.block 0 (.loop (.seq (qR [qm 7 3, qg 8 7, qb 9 .rem (.t 8) (.c (.int 16)), qb 10 .gtr (.t 9) (.c (.int 0))]
 (.cond (.t 10)
 .skip
 (.exit 0)))
 (.block 1 (.reg [qm 11 3, qo 12 (.bsl false .u8 1 1 [(.u8 0)] [(0, (1, (.c (.u8 0))))]), qo 13 (.app true 1 1 (.t 11) (.t 12)), qm 3 13] [])))))
 (qR [qm 14 3, qm 2 14]
 .ret))))
theorem o93 : FnOK Tryz.prog 93 N93 res93 c93 := mkF [] pures Tryz.func93
-- sentinel/sentinelref3.Mix
def N94 : Nat := 20
def keep94 : List Nat := [0, 1, 2, 3, 5]
def res94 : List RV := [(.c 2 (some 8))]
def c94 : CC :=
 (qR [qo 1 (.box (.t 0)), qo 2 (.alloc (.agg [(.u32 0), (.u32 0), (.u32 0), (.u32 0), (.u32 0), (.u32 0), (.u32 0), (.u32 0)]))]
 (.seq (qR [qj 3 1]
 (.block 0 (.loop (.seq (qR [qm 4 3, qb 5 .leq (.t 4) (.c (.int 8))]
 (.cond (.t 5)
 .skip
 (.exit 0)))
 (.seq (.block 1 (qR [qo 8 (.iadA 8 1 (.t 1) (.c (.int 0))), ql 9 8, qm 10 3, qo 11 (.conv .iu32 (.t 10)), qb 12 .xor (.t 9) (.t 11), qo 13 (.iadA 8 1 (.t 1) (.c (.int 0))), qs 13 12]
 (.reg [qo 14 (.load (some 8) (.t 1)), qc 15 113 [(.t 14), (.c (.int 0)), (.c (.int 1)), (.c (.int 2)), (.c (.int 3))], qc 16 113 [(.t 15), (.c (.int 4)), (.c (.int 5)), (.c (.int 6)), (.c (.int 7))], qc 17 113 [(.t 16), (.c (.int 0)), (.c (.int 5)), (.c (.int 2)), (.c (.int 7))], qc 18 113 [(.t 17), (.c (.int 4)), (.c (.int 1)), (.c (.int 6)), (.c (.int 3))], ⟨none, (.store (some 8) (.t 1) (.t 18)), none, 2⟩] [])))
 (.reg [qm 6 3, qb 7 .add (.t 6) (.c (.int 1)), qm 3 7] []))))))
 (qR [qo 19 (.load (some 8) (.t 1)), ⟨none, (.store (some 8) (.t 2) (.t 19)), none, 2⟩]
 .ret)))
theorem o94 : FnOK Tryz.prog 94 N94 res94 c94 := mkF [] pures Tryz.func94
-- sentinel/sponge.Of
def N95 : Nat := 6
def keep95 : List Nat := [0, 2]
def res95 : List RV := [(.c 2 (some 16))]
def c95 : CC :=
 (qR [qo 2 (.alloc (.agg [(.u8 0), (.u8 0), (.u8 0), (.u8 0), (.u8 0), (.u8 0), (.u8 0), (.u8 0), (.u8 0), (.u8 0), (.u8 0), (.u8 0), (.u8 0), (.u8 0), (.u8 0), (.u8 0)]))]
 (qR [qo 3 (.call (.c (.fn 114 [])) [(.c (.sl true 0 0 (.agg []) true))]), qm 4 0, qc 5 115 [(.t 3), (.t 4)], ⟨none, (.store (some 16) (.t 2) (.t 5)), none, 2⟩]
 .ret))
theorem o95 : FnOK Tryz.prog 95 N95 res95 c95 := mkF [] pures Tryz.func95
-- math/bits.Len32
def N96 : Nat := 19
def keep96 : List Nat := [0, 2, 4, 8]
def res96 : List RV := [(.t 2)]
def c96 : CC :=
 (qR [qj 2 0]
 (.seq (qR [qm 3 0, qb 4 .geq (.t 3) (.c (.u32 65536))]
 (.cond (.t 4)
 (qR [qm 5 0, qb 6 .shr (.t 5) (.c (.u64 16)), qm 0 6]
 (.reg [qj 2 16] []))
 .skip))
 (.seq (qR [qm 7 0, qb 8 .geq (.t 7) (.c (.u32 256))]
 (.cond (.t 8)
 (qR [qm 9 0, qb 10 .shr (.t 9) (.c (.u64 8)), qm 0 10]
 (.reg [qm 11 2, qb 12 .add (.t 11) (.c (.int 8)), qm 2 12] []))
 .skip))
 (qR [qm 13 2, qm 14 0, qo 15 (.conv .u32u8 (.t 14)), qo 16 (.idx (.c (.str [0, 1, 2, 2, 3, 3, 3, 3, 4, 4, 4, 4, 4, 4, 4, 4, 5, 5, 5, 5, 5, 5, 5, 5, 5, 5, 5, 5, 5, 5, 5, 5, 6, 6, 6, 6, 6, 6, 6, 6, 6, 6, 6, 6, 6, 6, 6, 6, 6, 6, 6, 6, 6, 6, 6, 6, 6, 6, 6, 6, 6, 6, 6, 6, 7, 7, 7, 7, 7, 7, 7, 7, 7, 7, 7, 7, 7, 7, 7, 7, 7, 7, 7, 7, 7, 7, 7, 7, 7, 7, 7, 7, 7, 7, 7, 7, 7, 7, 7, 7, 7, 7, 7, 7, 7, 7, 7, 7, 7, 7, 7, 7, 7, 7, 7, 7, 7, 7, 7, 7, 7, 7, 7, 7, 7, 7, 7, 7, 8, 8, 8, 8, 8, 8, 8, 8, 8, 8, 8, 8, 8, 8, 8, 8, 8, 8, 8, 8, 8, 8, 8, 8, 8, 8, 8, 8, 8, 8, 8, 8, 8, 8, 8, 8, 8, 8, 8, 8, 8, 8, 8, 8, 8, 8, 8, 8, 8, 8, 8, 8, 8, 8, 8, 8, 8, 8, 8, 8, 8, 8, 8, 8, 8, 8, 8, 8, 8, 8, 8, 8, 8, 8, 8, 8, 8, 8, 8, 8, 8, 8, 8, 8, 8, 8, 8, 8, 8, 8, 8, 8, 8, 8, 8, 8, 8, 8, 8, 8, 8, 8, 8, 8, 8, 8, 8, 8, 8, 8, 8, 8, 8, 8, 8, 8, 8, 8, 8, 8, 8, 8, 8, 8, 8, 8, 8, 8])) (.t 15)), qo 17 (.conv .u8i (.t 16)), qb 18 .add (.t 13) (.t 17), qm 2 18]
 .ret))))
theorem o96 : FnOK Tryz.prog 96 N96 res96 c96 := mkF [] pures Tryz.func96
-- sentinel/sentinelref1.Bits
def N97 : Nat := 14
def keep97 : List Nat := [0, 1, 2, 3, 5, 11]
def res97 : List RV := [(.t 2)]
def c97 : CC :=
 (qR [qo 1 (.box (.t 0)), qj 2 0]
 (.seq (qR [qj 3 255]
 (.block 0 (.loop (.seq (qR [qm 4 3, qb 5 .geq (.t 4) (.c (.int 0))]
 (.cond (.t 5)
 .skip
 (.exit 0)))
 (.seq (.block 1 (qR [qo 8 (.load (some 8) (.t 1)), qm 9 3, qc 10 116 [(.t 8), (.t 9)], qb 11 .gtr (.t 10) (.c (.u32 0))]
 (.cond (.t 11)
 (qR [qm 12 3, qb 13 .add (.t 12) (.c (.int 1)), qm 2 13]
 .ret)
 .skip)))
 (.reg [qm 6 3, qb 7 .sub (.t 6) (.c (.int 1)), qm 3 7] []))))))
 (qR [qj 2 0]
 .ret)))
theorem o97 : FnOK Tryz.prog 97 N97 res97 c97 := mkF [] pures Tryz.func97
-- sentinel/sentinelref1.Bytes
def N98 : Nat := 32
def keep98 : List Nat := [0, 1, 2, 3, 4, 6]
def res98 : List RV := [(.t 2)]
def c98 : CC :=
 (qR [qo 1 (.box (.t 0)), qo 2 (.mov (.c (.sl true 0 0 (.agg []) true)))]
 (qR [qo 3 (.mov (.c (.sl true 0 0 (.agg []) true)))]
 (.seq (qR [qj 4 7]
 (.block 0 (.loop (.seq (qR [qm 5 4, qb 6 .geq (.t 5) (.c (.int 0))]
 (.cond (.t 6)
 .skip
 (.exit 0)))
 (.seq (.block 1 (.reg [qz 9 3, qz 10 4, ⟨(some 11), (.iadA 8 1 (.t 1) (.t 10)), none, 0⟩, qk 12 11, ⟨(some 13), (.bin .shr (.t 12) (.c (.u64 24))), none, 0⟩, ⟨(some 14), (.conv .u32u8 (.t 13)), none, 0⟩, qz 15 4, ⟨(some 16), (.iadA 8 1 (.t 1) (.t 15)), none, 0⟩, qk 17 16, ⟨(some 18), (.bin .shr (.t 17) (.c (.u64 16))), none, 0⟩, ⟨(some 19), (.conv .u32u8 (.t 18)), none, 0⟩, qz 20 4, ⟨(some 21), (.iadA 8 1 (.t 1) (.t 20)), none, 0⟩, qk 22 21, ⟨(some 23), (.bin .shr (.t 22) (.c (.u64 8))), none, 0⟩, ⟨(some 24), (.conv .u32u8 (.t 23)), none, 0⟩, qz 25 4, ⟨(some 26), (.iadA 8 1 (.t 1) (.t 25)), none, 0⟩, qk 27 26, ⟨(some 28), (.conv .u32u8 (.t 27)), none, 0⟩, ⟨(some 29), (.bsl false .u8 1 4 [(.u8 0)] [(0, (1, (.t 14))), (1, (1, (.t 19))), (2, (1, (.t 24))), (3, (1, (.t 28)))]), none, 0⟩, qo 30 (.app true 1 1 (.t 9) (.t 29)), qz 3 30] []))
 (.reg [qm 7 4, qb 8 .sub (.t 7) (.c (.int 1)), qm 4 8] []))))))
 (qR [qm 31 3, qm 2 31]
 .ret))))
theorem o98 : FnOK Tryz.prog 98 N98 res98 c98 := mkF [] pures Tryz.func98
-- (*sentinel/wire.reader).number
def N99 : Nat := 18
def keep99 : List Nat := [0, 1, 4, 5]
def res99 : List RV := [(.t 4)]
def c99 : CC :=
 (qR [qj 4 0]
 (qR [qm 6 0, qm 7 1, qc 8 101 [(.t 6), (.t 7)], qo 5 (.alloc (.agg [(.u32 0), (.u32 0), (.u32 0), (.u32 0), (.u32 0), (.u32 0), (.u32 0), (.u32 0)])), ⟨none, (.store (some 8) (.t 5) (.t 8)), none, 2⟩]
 (qR [qo 9 (.iadA 8 1 (.t 5) (.c (.int 0))), ql 10 9, qo 11 (.conv .u32u64 (.t 10)), qo 12 (.iadA 8 1 (.t 5) (.c (.int 1))), ql 13 12, qo 14 (.conv .u32u64 (.t 13)), qb 15 .shl (.t 14) (.c (.u64 32)), qb 16 .or (.t 11) (.t 15), qo 17 (.conv .u64i (.t 16)), qm 4 17]
 .ret)))
theorem o99 : FnOK Tryz.prog 99 N99 res99 c99 := mkF [] pures Tryz.func99
-- (*sentinel/wire.reader).long
def N100 : Nat := 7
def keep100 : List Nat := [0, 2]
def res100 : List RV := [(.t 2)]
def c100 : CC :=
 (qR [qo 2 (.mov (.c (.sl true 0 0 (.agg []) true)))]
 (qR [qm 3 0, qm 4 0, qc 5 99 [(.t 4), (.c (.int 1))], qc 6 117 [(.t 3), (.t 5)], qm 2 6]
 .ret))
theorem o100 : FnOK Tryz.prog 100 N100 res100 c100 := mkF [] pures Tryz.func100
-- (*sentinel/wire.reader).num
def N101 : Nat := 15
def keep101 : List Nat := [0, 1, 4, 5]
def res101 : List RV := [(.c 4 (some 8))]
def c101 : CC :=
 (qR [qo 4 (.alloc (.agg [(.u32 0), (.u32 0), (.u32 0), (.u32 0), (.u32 0), (.u32 0), (.u32 0), (.u32 0)]))]
 (qR [qm 8 0, qm 9 1, qc 10 117 [(.t 8), (.t 9)], qc 11 87 [(.t 10)], qm 7 11, qe 12 7 0, qe 13 7 1, qo 5 (.alloc (.agg [(.u32 0), (.u32 0), (.u32 0), (.u32 0), (.u32 0), (.u32 0), (.u32 0), (.u32 0)])), ⟨none, (.store (some 8) (.t 5) (.t 12)), none, 2⟩, qm 6 13]
 (qR [qo 14 (.load (some 8) (.t 5)), ⟨none, (.store (some 8) (.t 4) (.t 14)), none, 2⟩]
 .ret)))
theorem o101 : FnOK Tryz.prog 101 N101 res101 c101 := mkF [] pures Tryz.func101
-- bytes.Equal
def N102 : Nat := 10
def keep102 : List Nat := [0, 1, 4]
def res102 : List RV := [(.t 4)]
def c102 : CC :=
 (qR [qo 4 (.mov (.c (.bool false)))]
 (qR [qm 5 0, qo 6 (.conv .bstr (.t 5)), qm 7 1, qo 8 (.conv .bstr (.t 7)), qo 9 (.eq false .sc (.t 6) (.t 8)), qm 4 9]
 .ret))
theorem o102 : FnOK Tryz.prog 102 N102 res102 c102 := mkF [] pures Tryz.func102
-- slices.insertionSortOrdered[string]
def N103 : Nat := 49
def keep103 : List Nat := [0, 1, 2, 6, 7, 12, 30]
def res103 : List RV := []
def c103 : CC :=
 (qR [qm 8 1, qb 9 .add (.t 8) (.c (.int 1)), qm 6 9]
 (.block 0 (.loop (.seq (qR [qm 10 6, qm 11 2, qb 12 .lss (.t 10) (.t 11)]
 (.cond (.t 12)
 .skip
 (.exit 0)))
 (.seq (.block 1 (qR [qm 15 6, qm 7 15]
 (.block 2 (.loop (.seq (qR [qz 16 7, qz 17 1, ⟨(some 18), (.bin .gtr (.t 16) (.t 17)), none, 0⟩, qz 19 18, ⟨(some 20), (.mov (.t 0)), (some (19, true)), 0⟩, ⟨(some 21), (.mov (.t 7)), (some (19, true)), 0⟩, ⟨(some 22), (.iadS 1 (.t 20) (.t 21)), (some (19, true)), 1⟩, ⟨(some 23), (.load none (.t 22)), (some (19, true)), 1⟩, ⟨(some 24), (.mov (.t 0)), (some (19, true)), 0⟩, ⟨(some 25), (.mov (.t 7)), (some (19, true)), 0⟩, ⟨(some 26), (.bin .sub (.t 25) (.c (.int 1))), (some (19, true)), 0⟩, ⟨(some 27), (.iadS 1 (.t 24) (.t 26)), (some (19, true)), 1⟩, ⟨(some 28), (.load none (.t 27)), (some (19, true)), 1⟩, ⟨(some 29), (.call (.c (.fn 109 [])) [(.t 23), (.t 28)]), (some (19, true)), 0⟩, ⟨(some 30), (.pick (.t 19) (.t 29) (.c (.bool false))), none, 0⟩]
 (.cond (.t 30)
 .skip
 (.exit 2)))
 (.seq (.block 3 (.reg [qz 33 0, qz 34 7, qz 35 0, qz 36 7, ⟨(some 37), (.bin .sub (.t 36) (.c (.int 1))), none, 0⟩, qz 38 0, qz 39 7, ⟨(some 40), (.bin .sub (.t 39) (.c (.int 1))), none, 0⟩, ⟨(some 41), (.iadS 1 (.t 38) (.t 40)), none, 1⟩, qk 42 41, qz 43 0, qz 44 7, ⟨(some 45), (.iadS 1 (.t 43) (.t 44)), none, 1⟩, qk 46 45, ⟨(some 47), (.iadS 1 (.t 33) (.t 34)), none, 1⟩, qs 47 42, ⟨(some 48), (.iadS 1 (.t 35) (.t 37)), none, 1⟩, qs 48 46] []))
 (.reg [qm 31 7, qb 32 .sub (.t 31) (.c (.int 1)), qm 7 32] [])))))))
 (.reg [qm 13 6, qb 14 .add (.t 13) (.c (.int 1)), qm 6 14] []))))))
theorem o103 : FnOK Tryz.prog 103 N103 res103 c103 := mkF [] pures Tryz.func103
-- cmp.Less[string]
def N109 : Nat := 17
def keep109 : List Nat := [0, 1, 4]
def res109 : List RV := [(.t 4)]
def c109 : CC :=
 (qR [qo 4 (.mov (.c (.bool false)))]
 (qR [qm 5 0, qc 6 123 [(.t 5)], qm 7 6, ⟨(some 8), (.mov (.t 1)), (some (7, true)), 2⟩, ⟨(some 9), (.call (.c (.fn 123 [])) [(.t 8)]), (some (7, true)), 2⟩, ⟨(some 10), (.un .not (.t 9)), (some (7, true)), 2⟩, qo 11 (.pick (.t 7) (.t 10) (.c (.bool false))), qm 12 11, ⟨(some 13), (.mov (.t 0)), (some (12, false)), 2⟩, ⟨(some 14), (.mov (.t 1)), (some (12, false)), 2⟩, ⟨(some 15), (.bin .lss (.t 13) (.t 14)), (some (12, false)), 2⟩, qo 16 (.pick (.t 12) (.c (.bool true)) (.t 15)), qm 4 16]
 .ret))
theorem o109 : FnOK Tryz.prog 109 N109 res109 c109 := mkF [] pures Tryz.func109
-- math/bits.Len64
def N112 : Nat := 25
def keep112 : List Nat := [0, 2, 4, 8, 14]
def res112 : List RV := [(.t 2)]
def c112 : CC :=
 (qR [qj 2 0]
 (.seq (qR [qm 3 0, qb 4 .geq (.t 3) (.c (.u64 4294967296))]
 (.cond (.t 4)
 (qR [qm 5 0, qb 6 .shr (.t 5) (.c (.u64 32)), qm 0 6]
 (.reg [qj 2 32] []))
 .skip))
 (.seq (qR [qm 7 0, qb 8 .geq (.t 7) (.c (.u64 65536))]
 (.cond (.t 8)
 (qR [qm 9 0, qb 10 .shr (.t 9) (.c (.u64 16)), qm 0 10]
 (.reg [qm 11 2, qb 12 .add (.t 11) (.c (.int 16)), qm 2 12] []))
 .skip))
 (.seq (qR [qm 13 0, qb 14 .geq (.t 13) (.c (.u64 256))]
 (.cond (.t 14)
 (qR [qm 15 0, qb 16 .shr (.t 15) (.c (.u64 8)), qm 0 16]
 (.reg [qm 17 2, qb 18 .add (.t 17) (.c (.int 8)), qm 2 18] []))
 .skip))
 (qR [qm 19 2, qm 20 0, qo 21 (.conv .u64u8 (.t 20)), qo 22 (.idx (.c (.str [0, 1, 2, 2, 3, 3, 3, 3, 4, 4, 4, 4, 4, 4, 4, 4, 5, 5, 5, 5, 5, 5, 5, 5, 5, 5, 5, 5, 5, 5, 5, 5, 6, 6, 6, 6, 6, 6, 6, 6, 6, 6, 6, 6, 6, 6, 6, 6, 6, 6, 6, 6, 6, 6, 6, 6, 6, 6, 6, 6, 6, 6, 6, 6, 7, 7, 7, 7, 7, 7, 7, 7, 7, 7, 7, 7, 7, 7, 7, 7, 7, 7, 7, 7, 7, 7, 7, 7, 7, 7, 7, 7, 7, 7, 7, 7, 7, 7, 7, 7, 7, 7, 7, 7, 7, 7, 7, 7, 7, 7, 7, 7, 7, 7, 7, 7, 7, 7, 7, 7, 7, 7, 7, 7, 7, 7, 7, 7, 8, 8, 8, 8, 8, 8, 8, 8, 8, 8, 8, 8, 8, 8, 8, 8, 8, 8, 8, 8, 8, 8, 8, 8, 8, 8, 8, 8, 8, 8, 8, 8, 8, 8, 8, 8, 8, 8, 8, 8, 8, 8, 8, 8, 8, 8, 8, 8, 8, 8, 8, 8, 8, 8, 8, 8, 8, 8, 8, 8, 8, 8, 8, 8, 8, 8, 8, 8, 8, 8, 8, 8, 8, 8, 8, 8, 8, 8, 8, 8, 8, 8, 8, 8, 8, 8, 8, 8, 8, 8, 8, 8, 8, 8, 8, 8, 8, 8, 8, 8, 8, 8, 8, 8, 8, 8, 8, 8, 8, 8, 8, 8, 8, 8, 8, 8, 8, 8, 8, 8, 8, 8, 8, 8, 8, 8, 8, 8])) (.t 21)), qo 23 (.conv .u8i (.t 22)), qb 24 .add (.t 19) (.t 23), qm 2 24]
 .ret)))))
theorem o112 : FnOK Tryz.prog 112 N112 res112 c112 := mkF [] pures Tryz.func112
-- sentinel/sentinelref3.quarter
def N113 : Nat := 88
def keep113 : List Nat := [0, 1, 2, 3, 4, 5, 10]
def res113 : List RV := [(.c 10 (some 8))]
def c113 : CC :=
 (qR [qo 5 (.box (.t 0)), qo 10 (.alloc (.agg [(.u32 0), (.u32 0), (.u32 0), (.u32 0), (.u32 0), (.u32 0), (.u32 0), (.u32 0)]))]
 (qR [qz 11 1, qz 12 1, ⟨(some 13), (.iadA 8 1 (.t 5) (.t 12)), none, 0⟩, qk 14 13, qz 15 2, ⟨(some 16), (.iadA 8 1 (.t 5) (.t 15)), none, 0⟩, qk 17 16, ⟨(some 18), (.bin .add (.t 14) (.t 17)), none, 0⟩, ⟨(some 19), (.iadA 8 1 (.t 5) (.t 11)), none, 0⟩, qs 19 18]
 (qR [qz 20 4, qz 21 4, ⟨(some 22), (.iadA 8 1 (.t 5) (.t 21)), none, 0⟩, qk 23 22, qz 24 1, ⟨(some 25), (.iadA 8 1 (.t 5) (.t 24)), none, 0⟩, qk 26 25, ⟨(some 27), (.bin .xor (.t 23) (.t 26)), none, 0⟩, ⟨(some 28), (.call (.c (.fn 124 [])) [(.t 27), (.c (.int 16))]), none, 0⟩, ⟨(some 29), (.iadA 8 1 (.t 5) (.t 20)), none, 0⟩, qs 29 28]
 (qR [qz 30 3, qz 31 3, ⟨(some 32), (.iadA 8 1 (.t 5) (.t 31)), none, 0⟩, qk 33 32, qz 34 4, ⟨(some 35), (.iadA 8 1 (.t 5) (.t 34)), none, 0⟩, qk 36 35, ⟨(some 37), (.bin .add (.t 33) (.t 36)), none, 0⟩, ⟨(some 38), (.iadA 8 1 (.t 5) (.t 30)), none, 0⟩, qs 38 37]
 (qR [qz 39 2, qz 40 2, ⟨(some 41), (.iadA 8 1 (.t 5) (.t 40)), none, 0⟩, qk 42 41, qz 43 3, ⟨(some 44), (.iadA 8 1 (.t 5) (.t 43)), none, 0⟩, qk 45 44, ⟨(some 46), (.bin .xor (.t 42) (.t 45)), none, 0⟩, ⟨(some 47), (.call (.c (.fn 124 [])) [(.t 46), (.c (.int 12))]), none, 0⟩, ⟨(some 48), (.iadA 8 1 (.t 5) (.t 39)), none, 0⟩, qs 48 47]
 (qR [qz 49 1, qz 50 1, ⟨(some 51), (.iadA 8 1 (.t 5) (.t 50)), none, 0⟩, qk 52 51, qz 53 2, ⟨(some 54), (.iadA 8 1 (.t 5) (.t 53)), none, 0⟩, qk 55 54, ⟨(some 56), (.bin .add (.t 52) (.t 55)), none, 0⟩, ⟨(some 57), (.iadA 8 1 (.t 5) (.t 49)), none, 0⟩, qs 57 56]
 (qR [qz 58 4, qz 59 4, ⟨(some 60), (.iadA 8 1 (.t 5) (.t 59)), none, 0⟩, qk 61 60, qz 62 1, ⟨(some 63), (.iadA 8 1 (.t 5) (.t 62)), none, 0⟩, qk 64 63, ⟨(some 65), (.bin .xor (.t 61) (.t 64)), none, 0⟩, ⟨(some 66), (.call (.c (.fn 124 [])) [(.t 65), (.c (.int 8))]), none, 0⟩, ⟨(some 67), (.iadA 8 1 (.t 5) (.t 58)), none, 0⟩, qs 67 66]
 (qR [qz 68 3, qz 69 3, ⟨(some 70), (.iadA 8 1 (.t 5) (.t 69)), none, 0⟩, qk 71 70, qz 72 4, ⟨(some 73), (.iadA 8 1 (.t 5) (.t 72)), none, 0⟩, qk 74 73, ⟨(some 75), (.bin .add (.t 71) (.t 74)), none, 0⟩, ⟨(some 76), (.iadA 8 1 (.t 5) (.t 68)), none, 0⟩, qs 76 75]
 (qR [qz 77 2, qz 78 2, ⟨(some 79), (.iadA 8 1 (.t 5) (.t 78)), none, 0⟩, qk 80 79, qz 81 3, ⟨(some 82), (.iadA 8 1 (.t 5) (.t 81)), none, 0⟩, qk 83 82, ⟨(some 84), (.bin .xor (.t 80) (.t 83)), none, 0⟩, ⟨(some 85), (.call (.c (.fn 124 [])) [(.t 84), (.c (.int 7))]), none, 0⟩, ⟨(some 86), (.iadA 8 1 (.t 5) (.t 77)), none, 0⟩, qs 86 85]
 (qR [qo 87 (.load (some 8) (.t 5)), ⟨none, (.store (some 8) (.t 10) (.t 87)), none, 2⟩]
 .ret))))))))))
theorem o113 : FnOK Tryz.prog 113 N113 res113 c113 := mkF [] pures Tryz.func113
-- sentinel/sponge.New
def N114 : Nat := 17
def keep114 : List Nat := [0, 2, 3]
def res114 : List RV := [(.t 2)]
def c114 : CC :=
 (qR [qo 2 (.mov (.c .nilp))]
 (qR [qo 4 (.build [(.u32 0), (.u32 0), (.u32 0), (.u32 0), (.u32 0), (.u32 0), (.u32 0), (.u32 0), (.sl true 0 0 (.agg []) true)] []), qo 5 (.box (.t 4)), qm 3 5]
 (qR [qm 6 3, qm 7 0, qg 8 7, qc 9 126 [(.t 8)], qc 10 125 [(.t 6), (.t 9)]]
 (qR [qm 11 3, qm 12 0, qc 13 125 [(.t 11), (.t 12)]]
 (qR [qm 14 3, qc 15 127 [(.t 14)]]
 (qR [qm 16 3, qm 2 16]
 .ret))))))
theorem o114 : FnOK Tryz.prog 114 N114 res114 c114 := mkF [] pures Tryz.func114
-- (*sentinel/sponge.Sponge).put
def N115 : Nat := 24
def keep115 : List Nat := [0, 1, 4, 6, 7, 8, 9, 10]
def res115 : List RV := [(.c 4 (some 16))]
def c115 : CC :=
 (qR [qo 4 (.alloc (.agg [(.u8 0), (.u8 0), (.u8 0), (.u8 0), (.u8 0), (.u8 0), (.u8 0), (.u8 0), (.u8 0), (.u8 0), (.u8 0), (.u8 0), (.u8 0), (.u8 0), (.u8 0), (.u8 0)]))]
 (.seq (qR [qm 7 1, qg 8 7, qj 9 0]
 (.block 0 (.loop (qR [qb 10 .lss (.t 9) (.t 8)]
 (.seq (.cond (.t 10)
 .skip
 (.exit 0))
 (.seq (.block 1 (qR [qi 11 1 7 9, ql 12 11, qm 6 12]
 (qR [qm 13 0, qm 14 6, qg 15 14, qc 16 126 [(.t 15)], qc 17 125 [(.t 13), (.t 16)]]
 (.reg [qm 18 0, qm 19 6, qc 20 125 [(.t 18), (.t 19)]] []))))
 (.reg [qb 21 .add (.t 9) (.c (.int 1)), qm 9 21] [])))))))
 (qR [qm 22 0, qc 23 128 [(.t 22)], ⟨none, (.store (some 16) (.t 4) (.t 23)), none, 2⟩]
 .ret)))
theorem o115 : FnOK Tryz.prog 115 N115 res115 c115 := mkF [] pures Tryz.func115
-- sentinel/sentinelref1.bit
def N116 : Nat := 14
def keep116 : List Nat := [0, 1, 2, 4]
def res116 : List RV := [(.t 4)]
def c116 : CC :=
 (qR [qo 2 (.box (.t 0)), qo 4 (.mov (.c (.u32 0)))]
 (qR [qm 5 1, qb 6 .quo (.t 5) (.c (.int 32)), qo 7 (.iadA 8 1 (.t 2) (.t 6)), ql 8 7, qm 9 1, qb 10 .rem (.t 9) (.c (.int 32)), qo 11 (.conv .iu64 (.t 10)), qb 12 .shr (.t 8) (.t 11), qb 13 .and (.t 12) (.c (.u32 1)), qm 4 13]
 .ret))
theorem o116 : FnOK Tryz.prog 116 N116 res116 c116 := mkF [] pures Tryz.func116
-- (*sentinel/wire.reader).take
def N117 : Nat := 40
def keep117 : List Nat := [0, 1, 4, 5, 16]
def res117 : List RV := [(.t 4)]
def c117 : CC :=
 (qR [qo 4 (.mov (.c (.sl true 0 0 (.agg []) true)))]
 (.seq (qR [qm 6 1, qb 7 .lss (.t 6) (.c (.int 0)), qm 8 7, ⟨(some 9), (.mov (.t 1)), (some (8, false)), 2⟩, ⟨(some 10), (.mov (.t 0)), (some (8, false)), 2⟩, ⟨(some 11), (.nilck (.t 10)), (some (8, false)), 2⟩, ⟨(some 12), (.fad 0 (.t 11)), (some (8, false)), 2⟩, ⟨(some 13), (.load none (.t 12)), (some (8, false)), 2⟩, ⟨(some 14), (.len false (.t 13)), (some (8, false)), 2⟩, ⟨(some 15), (.bin .gtr (.t 9) (.t 14)), (some (8, false)), 2⟩, qo 16 (.pick (.t 8) (.c (.bool true)) (.t 15))]
 (.cond (.t 16)
 (qR [qm 17 0, qm 18 0, qn 19 17, qf 20 0 19, ⟨none, (.store none (.t 20) (.c (.sl true 0 0 (.agg []) true))), none, 2⟩, qn 21 18, qf 22 1 21, ⟨none, (.store none (.t 22) (.c (.bool true))), none, 2⟩]
 (qR [qo 4 (.mov (.c (.sl true 0 0 (.agg []) true)))]
 .ret))
 .skip))
 (qR [qm 23 0, qn 24 23, qf 25 0 24, ql 26 25, qm 27 1, qo 28 (.slcS 1 (.t 26) none (some (.t 27)) none), qm 5 28]
 (qR [qm 29 0, qm 30 0, qn 31 30, qf 32 0 31, ql 33 32, qm 34 1, qo 35 (.slcS 1 (.t 33) (some (.t 34)) none none), qn 36 29, qf 37 0 36, qs 37 35]
 (qR [qm 38 5, qc 39 56 [(.t 38)], qm 4 39]
 .ret)))))
theorem o117 : FnOK Tryz.prog 117 N117 res117 c117 := mkF [] pures Tryz.func117
-- cmp.isNaN[string]
def N123 : Nat := 6
def keep123 : List Nat := [0, 2]
def res123 : List RV := [(.t 2)]
def c123 : CC :=
 (qR [qo 2 (.mov (.c (.bool false)))]
 (qR [qm 3 0, qm 4 0, qo 5 (.eq true .sc (.t 3) (.t 4)), qm 2 5]
 .ret))
theorem o123 : FnOK Tryz.prog 123 N123 res123 c123 := mkF [] pures Tryz.func123
-- sentinel/sentinelref3.turn
def N124 : Nat := 15
def keep124 : List Nat := [0, 1, 4]
def res124 : List RV := [(.t 4)]
def c124 : CC :=
 (qR [qo 4 (.mov (.c (.u32 0)))]
 (qR [qm 5 0, qm 6 1, qo 7 (.conv .iu64 (.t 6)), qb 8 .shl (.t 5) (.t 7), qm 9 0, qm 10 1, qb 11 .sub (.c (.int 32)) (.t 10), qo 12 (.conv .iu64 (.t 11)), qb 13 .shr (.t 9) (.t 12), qb 14 .or (.t 8) (.t 13), qm 4 14]
 .ret))
theorem o124 : FnOK Tryz.prog 124 N124 res124 c124 := mkF [] pures Tryz.func124
-- (*sentinel/sponge.Sponge).Write
def N125 : Nat := 38
def keep125 : List Nat := [0, 1, 4, 22]
def res125 : List RV := []
def c125 : CC :=
 (qR [qm 5 0, qm 6 0, qn 7 6, qf 8 8 7, ql 9 8, qc 10 56 [(.t 9)], qm 11 1, qo 12 (.app true 1 1 (.t 10) (.t 11)), qn 13 5, qf 14 8 13, qs 14 12]
 (qR [qm 15 0, qo 16 (.mkb 130 [(.t 15)]), qm 4 16]
 (.block 0 (.loop (.seq (qR [qm 17 0, qn 18 17, qf 19 8 18, ql 20 19, qg 21 20, qb 22 .geq (.t 21) (.c (.int 16))]
 (.cond (.t 22)
 .skip
 (.exit 0)))
 (.block 1 (qR [qm 23 4, qm 24 0, qn 25 24, qf 26 8 25, ql 27 26, qo 28 (.slcS 1 (.t 27) none (some (.c (.int 16))) none), qo 29 (.call (.t 23) [(.t 28)])]
 (.reg [qm 30 0, qm 31 0, qn 32 31, qf 33 8 32, ql 34 33, qo 35 (.slcS 1 (.t 34) (some (.c (.int 16))) none none), qn 36 30, qf 37 8 36, qs 37 35] []))))))))
theorem o125 : FnOK Tryz.prog 125 N125 res125 c125 := mkF [] pures Tryz.func125
-- sentinel/sponge.number
def N126 : Nat := 22
def keep126 : List Nat := [0, 2, 3, 4, 7, 8, 9]
def res126 : List RV := [(.t 2)]
def c126 : CC :=
 (qR [qo 2 (.mov (.c (.sl true 0 0 (.agg []) true)))]
 (qR [qo 5 (.mksl .u8 1 1 [(.u8 0)] (.c (.int 8)) (.c (.int 8))), qm 3 5]
 (.seq (qR [qm 6 3, qg 7 6, qj 8 0]
 (.block 0 (.loop (qR [qb 9 .lss (.t 8) (.t 7)]
 (.seq (.cond (.t 9)
 .skip
 (.exit 0))
 (.seq (.block 1 (qR [qm 10 8, qm 4 10]
 (.reg [qm 11 3, qm 12 4, qm 13 0, qm 14 4, qb 15 .mul (.c (.int 8)) (.t 14), qb 16 .sub (.c (.int 56)) (.t 15), qb 17 .shr (.t 13) (.t 16), qo 18 (.conv .iu8 (.t 17)), qi 19 1 11 12, qs 19 18] [])))
 (.reg [qb 20 .add (.t 8) (.c (.int 1)), qm 8 20] [])))))))
 (qR [qm 21 3, qm 2 21]
 .ret))))
theorem o126 : FnOK Tryz.prog 126 N126 res126 c126 := mkF [] pures Tryz.func126
-- (*sentinel/sponge.Sponge).fill
def N127 : Nat := 17
def keep127 : List Nat := [0, 7]
def res127 : List RV := []
def c127 : CC :=
 (qR [qm 2 0, qn 3 2, qf 4 8 3, ql 5 4, qg 6 5, qb 7 .gtr (.t 6) (.c (.int 0))]
 (.cond (.t 7)
 (.reg [qm 8 0, qm 9 0, qn 10 9, qf 11 8 10, ql 12 11, qg 13 12, qb 14 .sub (.c (.int 16)) (.t 13), qo 15 (.mksl .u8 1 1 [(.u8 0)] (.t 14) (.t 14)), qc 16 125 [(.t 8), (.t 15)]] [])
 .skip))
theorem o127 : FnOK Tryz.prog 127 N127 res127 c127 := mkF [] pures Tryz.func127
-- (*sentinel/sponge.Sponge).Sum
def N128 : Nat := 57
def keep128 : List Nat := [0, 2, 3, 4, 5, 38, 39]
def res128 : List RV := [(.c 2 (some 16))]
def c128 : CC :=
 (qR [qo 2 (.alloc (.agg [(.u8 0), (.u8 0), (.u8 0), (.u8 0), (.u8 0), (.u8 0), (.u8 0), (.u8 0), (.u8 0), (.u8 0), (.u8 0), (.u8 0), (.u8 0), (.u8 0), (.u8 0), (.u8 0)]))]
 (qR [qz 6 0, ⟨(some 7), (.nilck (.t 6)), none, 0⟩, ⟨(some 8), (.fad 0 (.t 7)), none, 0⟩, ⟨(some 9), (.load (some 8) (.t 8)), none, 1⟩, qz 10 0, ⟨(some 11), (.nilck (.t 10)), none, 0⟩, ⟨(some 12), (.fad 8 (.t 11)), none, 0⟩, qk 13 12, ⟨(some 14), (.build [(.u32 0), (.u32 0), (.u32 0), (.u32 0), (.u32 0), (.u32 0), (.u32 0), (.u32 0), (.sl true 0 0 (.agg []) true)] [(0, (8, (.t 9))), (8, (1, (.t 13)))]), none, 0⟩, qo 15 (.box (.t 14)), qz 3 15]
 (qR [qm 16 3, qo 17 (.bsl false .u8 1 1 [(.u8 0)] [(0, (1, (.c (.u8 128))))]), qc 18 125 [(.t 16), (.t 17)]]
 (qR [qm 19 3, qc 20 127 [(.t 19)]]
 (qR [qz 21 3, ⟨(some 22), (.nilck (.t 21)), none, 0⟩, ⟨(some 23), (.fad 0 (.t 22)), none, 0⟩, ⟨(some 24), (.iadA 8 1 (.t 23) (.c (.int 7))), none, 0⟩, qk 25 24, ⟨(some 26), (.bin .xor (.t 25) (.c (.u32 1))), none, 0⟩, ⟨(some 27), (.nilck (.t 21)), none, 0⟩, ⟨(some 28), (.fad 0 (.t 27)), none, 0⟩, ⟨(some 29), (.iadA 8 1 (.t 28) (.c (.int 7))), none, 0⟩, qs 29 26]
 (qR [qm 30 3, qm 31 3, qn 32 31, qf 33 0 32, qo 34 (.load (some 8) (.t 33)), qc 35 131 [(.t 34)], qn 36 30, qf 37 0 36, ⟨none, (.store (some 8) (.t 37) (.t 35)), none, 2⟩]
 (qR [qo 4 (.alloc (.agg [(.u8 0), (.u8 0), (.u8 0), (.u8 0), (.u8 0), (.u8 0), (.u8 0), (.u8 0), (.u8 0), (.u8 0), (.u8 0), (.u8 0), (.u8 0), (.u8 0), (.u8 0), (.u8 0)]))]
 (.seq (qR [qj 38 0]
 (.block 0 (.loop (qR [qb 39 .lss (.t 38) (.c (.int 16))]
 (.seq (.cond (.t 39)
 .skip
 (.exit 0))
 (.seq (.block 1 (qR [qm 40 38, qm 5 40]
 (.reg [qm 41 5, qm 42 3, qm 43 5, qb 44 .quo (.t 43) (.c (.int 4)), qn 45 42, qf 46 0 45, qo 47 (.iadA 8 1 (.t 46) (.t 44)), ql 48 47, qm 49 5, qb 50 .rem (.t 49) (.c (.int 4)), qb 51 .mul (.c (.int 8)) (.t 50), qb 52 .shr (.t 48) (.t 51), qo 53 (.conv .u32u8 (.t 52)), qo 54 (.iadA 16 1 (.t 4) (.t 41)), qs 54 53] [])))
 (.reg [qb 55 .add (.t 38) (.c (.int 1)), qm 38 55] [])))))))
 (qR [qo 56 (.load (some 16) (.t 4)), ⟨none, (.store (some 16) (.t 2) (.t 56)), none, 2⟩]
 .ret)))))))))
theorem o128 : FnOK Tryz.prog 128 N128 res128 c128 := mkF [] pures Tryz.func128
-- (*sentinel/sponge.Sponge).take
def N130 : Nat := 60
def keep130 : List Nat := [0, 1, 4, 5, 6]
def res130 : List RV := []
def c130 : CC :=
 (.seq (qR [qj 5 0]
 (.block 0 (.loop (qR [qb 6 .lss (.t 5) (.c (.int 4))]
 (.seq (.cond (.t 6)
 .skip
 (.exit 0))
 (.seq (.block 1 (qR [qm 7 5, qm 4 7]
 (.reg [qz 8 0, qz 9 4, ⟨(some 10), (.nilck (.t 8)), none, 0⟩, ⟨(some 11), (.fad 0 (.t 10)), none, 0⟩, ⟨(some 12), (.iadA 8 1 (.t 11) (.t 9)), none, 0⟩, qk 13 12, qz 14 1, qz 15 4, ⟨(some 16), (.bin .mul (.c (.int 4)) (.t 15)), none, 0⟩, ⟨(some 17), (.iadS 1 (.t 14) (.t 16)), none, 1⟩, qk 18 17, ⟨(some 19), (.conv .u8u32 (.t 18)), none, 0⟩, qz 20 1, qz 21 4, ⟨(some 22), (.bin .mul (.c (.int 4)) (.t 21)), none, 0⟩, ⟨(some 23), (.bin .add (.t 22) (.c (.int 1))), none, 0⟩, ⟨(some 24), (.iadS 1 (.t 20) (.t 23)), none, 1⟩, qk 25 24, ⟨(some 26), (.conv .u8u32 (.t 25)), none, 0⟩, ⟨(some 27), (.bin .shl (.t 26) (.c (.u64 8))), none, 0⟩, ⟨(some 28), (.bin .or (.t 19) (.t 27)), none, 0⟩, qz 29 1, qz 30 4, ⟨(some 31), (.bin .mul (.c (.int 4)) (.t 30)), none, 0⟩, ⟨(some 32), (.bin .add (.t 31) (.c (.int 2))), none, 0⟩, ⟨(some 33), (.iadS 1 (.t 29) (.t 32)), none, 1⟩, qk 34 33, ⟨(some 35), (.conv .u8u32 (.t 34)), none, 0⟩, ⟨(some 36), (.bin .shl (.t 35) (.c (.u64 16))), none, 0⟩, ⟨(some 37), (.bin .or (.t 28) (.t 36)), none, 0⟩, qz 38 1, qz 39 4, ⟨(some 40), (.bin .mul (.c (.int 4)) (.t 39)), none, 0⟩, ⟨(some 41), (.bin .add (.t 40) (.c (.int 3))), none, 0⟩, ⟨(some 42), (.iadS 1 (.t 38) (.t 41)), none, 1⟩, qk 43 42, ⟨(some 44), (.conv .u8u32 (.t 43)), none, 0⟩, ⟨(some 45), (.bin .shl (.t 44) (.c (.u64 24))), none, 0⟩, ⟨(some 46), (.bin .or (.t 37) (.t 45)), none, 0⟩, ⟨(some 47), (.bin .xor (.t 13) (.t 46)), none, 0⟩, ⟨(some 48), (.nilck (.t 8)), none, 0⟩, ⟨(some 49), (.fad 0 (.t 48)), none, 0⟩, ⟨(some 50), (.iadA 8 1 (.t 49) (.t 9)), none, 0⟩, qs 50 47] [])))
 (.reg [qb 51 .add (.t 5) (.c (.int 1)), qm 5 51] [])))))))
 (.reg [qm 52 0, qm 53 0, qn 54 53, qf 55 0 54, qo 56 (.load (some 8) (.t 55)), qc 57 131 [(.t 56)], qn 58 52, qf 59 0 58, ⟨none, (.store (some 8) (.t 59) (.t 57)), none, 2⟩] []))
theorem o130 : FnOK Tryz.prog 130 N130 res130 c130 := mkF [] pures Tryz.func130
-- sentinel/sponge.Mix
def N131 : Nat := 87
def keep131 : List Nat := [0, 1, 2, 3, 5]
def res131 : List RV := [(.c 2 (some 8))]
def c131 : CC :=
 (qR [qo 1 (.box (.t 0)), qo 2 (.alloc (.agg [(.u32 0), (.u32 0), (.u32 0), (.u32 0), (.u32 0), (.u32 0), (.u32 0), (.u32 0)]))]
 (.seq (qR [qj 3 1]
 (.block 0 (.loop (.seq (qR [qm 4 3, qb 5 .leq (.t 4) (.c (.int 8))]
 (.cond (.t 5)
 .skip
 (.exit 0)))
 (.seq (.block 1 (qR [qo 8 (.iadA 8 1 (.t 1) (.c (.int 0))), ql 9 8, qm 10 3, qo 11 (.conv .iu32 (.t 10)), qb 12 .xor (.t 9) (.t 11), qo 13 (.iadA 8 1 (.t 1) (.c (.int 0))), qs 13 12]
 (qR [qo 15 (.iadA 8 1 (.t 1) (.c (.int 0))), ql 16 15, qo 17 (.iadA 8 1 (.t 1) (.c (.int 1))), ql 18 17, qo 19 (.iadA 8 1 (.t 1) (.c (.int 2))), ql 20 19, qo 21 (.iadA 8 1 (.t 1) (.c (.int 3))), ql 22 21, qc 23 132 [(.t 16), (.t 18), (.t 20), (.t 22)], qm 14 23, qe 24 14 0, qe 25 14 1, qe 26 14 2, qe 27 14 3, qo 28 (.iadA 8 1 (.t 1) (.c (.int 0))), qs 28 24, qo 29 (.iadA 8 1 (.t 1) (.c (.int 1))), qs 29 25, qo 30 (.iadA 8 1 (.t 1) (.c (.int 2))), qs 30 26, qo 31 (.iadA 8 1 (.t 1) (.c (.int 3))), qs 31 27]
 (qR [qo 33 (.iadA 8 1 (.t 1) (.c (.int 4))), ql 34 33, qo 35 (.iadA 8 1 (.t 1) (.c (.int 5))), ql 36 35, qo 37 (.iadA 8 1 (.t 1) (.c (.int 6))), ql 38 37, qo 39 (.iadA 8 1 (.t 1) (.c (.int 7))), ql 40 39, qc 41 132 [(.t 34), (.t 36), (.t 38), (.t 40)], qm 32 41, qe 42 32 0, qe 43 32 1, qe 44 32 2, qe 45 32 3, qo 46 (.iadA 8 1 (.t 1) (.c (.int 4))), qs 46 42, qo 47 (.iadA 8 1 (.t 1) (.c (.int 5))), qs 47 43, qo 48 (.iadA 8 1 (.t 1) (.c (.int 6))), qs 48 44, qo 49 (.iadA 8 1 (.t 1) (.c (.int 7))), qs 49 45]
 (qR [qo 51 (.iadA 8 1 (.t 1) (.c (.int 0))), ql 52 51, qo 53 (.iadA 8 1 (.t 1) (.c (.int 5))), ql 54 53, qo 55 (.iadA 8 1 (.t 1) (.c (.int 2))), ql 56 55, qo 57 (.iadA 8 1 (.t 1) (.c (.int 7))), ql 58 57, qc 59 132 [(.t 52), (.t 54), (.t 56), (.t 58)], qm 50 59, qe 60 50 0, qe 61 50 1, qe 62 50 2, qe 63 50 3, qo 64 (.iadA 8 1 (.t 1) (.c (.int 0))), qs 64 60, qo 65 (.iadA 8 1 (.t 1) (.c (.int 5))), qs 65 61, qo 66 (.iadA 8 1 (.t 1) (.c (.int 2))), qs 66 62, qo 67 (.iadA 8 1 (.t 1) (.c (.int 7))), qs 67 63]
 (.reg [qo 69 (.iadA 8 1 (.t 1) (.c (.int 4))), ql 70 69, qo 71 (.iadA 8 1 (.t 1) (.c (.int 1))), ql 72 71, qo 73 (.iadA 8 1 (.t 1) (.c (.int 6))), ql 74 73, qo 75 (.iadA 8 1 (.t 1) (.c (.int 3))), ql 76 75, qc 77 132 [(.t 70), (.t 72), (.t 74), (.t 76)], qm 68 77, qe 78 68 0, qe 79 68 1, qe 80 68 2, qe 81 68 3, qo 82 (.iadA 8 1 (.t 1) (.c (.int 4))), qs 82 78, qo 83 (.iadA 8 1 (.t 1) (.c (.int 1))), qs 83 79, qo 84 (.iadA 8 1 (.t 1) (.c (.int 6))), qs 84 80, qo 85 (.iadA 8 1 (.t 1) (.c (.int 3))), qs 85 81] []))))))
 (.reg [qm 6 3, qb 7 .add (.t 6) (.c (.int 1)), qm 3 7] []))))))
 (qR [qo 86 (.load (some 8) (.t 1)), ⟨none, (.store (some 8) (.t 2) (.t 86)), none, 2⟩]
 .ret)))
theorem o131 : FnOK Tryz.prog 131 N131 res131 c131 := mkF [] pures Tryz.func131
-- sentinel/sponge.quarter
def N132 : Nat := 44
def keep132 : List Nat := [0, 1, 2, 3, 8, 9, 10, 11]
def res132 : List RV := [(.t 8), (.t 9), (.t 10), (.t 11)]
def c132 : CC :=
 (qR [qo 8 (.mov (.c (.u32 0))), qo 9 (.mov (.c (.u32 0))), qo 10 (.mov (.c (.u32 0))), qo 11 (.mov (.c (.u32 0)))]
 (qR [qm 12 0, qm 13 1, qb 14 .add (.t 12) (.t 13), qm 0 14]
 (qR [qm 15 3, qm 16 0, qb 17 .xor (.t 15) (.t 16), qc 18 133 [(.t 17), (.c (.int 16))], qm 3 18]
 (qR [qm 19 2, qm 20 3, qb 21 .add (.t 19) (.t 20), qm 2 21]
 (qR [qm 22 1, qm 23 2, qb 24 .xor (.t 22) (.t 23), qc 25 133 [(.t 24), (.c (.int 12))], qm 1 25]
 (qR [qm 26 0, qm 27 1, qb 28 .add (.t 26) (.t 27), qm 0 28]
 (qR [qm 29 3, qm 30 0, qb 31 .xor (.t 29) (.t 30), qc 32 133 [(.t 31), (.c (.int 8))], qm 3 32]
 (qR [qm 33 2, qm 34 3, qb 35 .add (.t 33) (.t 34), qm 2 35]
 (qR [qm 36 1, qm 37 2, qb 38 .xor (.t 36) (.t 37), qc 39 133 [(.t 38), (.c (.int 7))], qm 1 39]
 (qR [qm 40 0, qm 41 1, qm 42 2, qm 43 3, qm 8 40, qm 9 41, qm 10 42, qm 11 43]
 .ret))))))))))
theorem o132 : FnOK Tryz.prog 132 N132 res132 c132 := mkF [] pures Tryz.func132
-- math/bits.RotateLeft32
def N133 : Nat := 17
def keep133 : List Nat := [0, 1, 4, 5]
def res133 : List RV := [(.t 4)]
def c133 : CC :=
 (qR [qo 4 (.mov (.c (.u32 0)))]
 (qR [qm 6 1, qo 7 (.conv .iu64 (.t 6)), qb 8 .and (.t 7) (.c (.u64 31)), qm 5 8]
 (qR [qm 9 0, qm 10 5, qb 11 .shl (.t 9) (.t 10), qm 12 0, qm 13 5, qb 14 .sub (.c (.u64 32)) (.t 13), qb 15 .shr (.t 12) (.t 14), qb 16 .or (.t 11) (.t 15), qm 4 16]
 .ret)))
theorem o133 : FnOK Tryz.prog 133 N133 res133 c133 := mkF [] pures Tryz.func133
end Go.Abs
