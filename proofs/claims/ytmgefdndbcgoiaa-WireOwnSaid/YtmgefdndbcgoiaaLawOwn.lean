/-
  Own work. Conditions: none. The code of a law in the short form. (Own work; printed by our own program.) The walk of the law WireOwn.
-/
import Derived.Test.YtmgefdndbcgoiaaOwD
set_option linter.unusedVariables false
set_option linter.unusedSimpArgs false
set_option linter.unnecessarySimpa false
namespace Go.Abs
theorem goLawOwn1 {P Q : Prop} (k : Q) (h : Hid Q → P := by (refine fun k__ => ?_); (repeat (first | ((first | refine RUN.sreg hsp hkp rfl (fun κ__ h__ => ?_) | refine RUN.reg hsp hkp rfl (fun κ__ h__ => ?_)); dsimp only [e15, e16, e17, e20x, e20w, e20, spAt, e21, e34, e35, e37x, e37w, e37, e38, e41, Num.eta, By.eta, msgD, Msg.eta, Msg.C, Msg.Cw, Msg.Co, By.O, wkL, wkV, recD, Rec.eta, Rec.C, Rec.Cw, Rec.Co, go_sem, Nat.succ, Int.reduceToNat, Nat.reduceAdd, Nat.reduceMul, Nat.reduceSub, Int.reduceLT, Int.reduceLE, Int.reduceNeg, UInt64.reduceToNat, UInt32.reduceToNat, UInt8.reduceToNat]; subst h__) | refine RUN.block rfl ?_ | refine RUN.skip rfl ?_ | refine RUN.ret rfl ?_ | (refine RUN.exit rfl ?_; dsimp only [xfind, xfB, Nat.beq]) | (refine RUN.seq rfl (fun κ__ h__ => ?_); subst h__) | (refine RUN.cond rfl (p := true) rfl (fun _ => ?_) (fun h__ => by cases h__)) | (refine RUN.cond rfl (p := false) rfl (fun h__ => by cases h__) (fun _ => ?_)) | refine ⟨by first | trivial | omega | (and_intros <;> first | trivial | rfl | omega) | rfl, ?_⟩)); exact k__.out) : P := h ⟨k⟩
open Go.Proofs
set_option maxRecDepth 100000
-- sentinel/sentinellaw5.WireOwn
def N14 : Nat := 161
def keep14 : List Nat := [0, 1, 2, 3, 8, 9, 10, 11, 12, 13, 15, 16, 17, 18, 19, 20, 21, 23, 25, 26, 27, 29, 37, 54, 74, 83, 118]
def res14 : List RV := [(.t 8)]
def c14 : CC :=
 (.seq (.reg [⟨(some 8), (.mov (.c (.bool false))), none, 2⟩] [])
 (.seq (.seq (.reg [⟨(some 28), (.call (.c (.fn 15 [])) []), none, 2⟩, ⟨(some 29), (.un .not (.t 28)), none, 2⟩] [])
 (.cond (.t 29)
 (.seq (.reg [⟨(some 8), (.mov (.c (.bool false))), none, 2⟩] [])
 .ret)
 .skip))
 (.seq (.seq (.reg [⟨(some 30), (.mov (.t 2)), none, 2⟩, ⟨(some 31), (.len true (.t 30)), none, 2⟩, ⟨(some 32), (.bin .gtr (.t 31) (.c (.int 40))), none, 2⟩, ⟨(some 33), (.mov (.t 32)), none, 2⟩, ⟨(some 34), (.mov (.t 3)), (some (33, false)), 2⟩, ⟨(some 35), (.len false (.t 34)), (some (33, false)), 2⟩, ⟨(some 36), (.bin .gtr (.t 35) (.c (.int 100))), (some (33, false)), 2⟩, ⟨(some 37), (.pick (.t 33) (.c (.bool true)) (.t 36)), none, 2⟩] [])
 (.cond (.t 37)
 (.seq (.reg [⟨(some 8), (.mov (.c (.bool true))), none, 2⟩] [])
 .ret)
 .skip))
 (.seq (.reg [⟨(some 38), (.mov (.t 0)), none, 2⟩, ⟨(some 39), (.mov (.t 1)), none, 2⟩, ⟨(some 40), (.mov (.t 2)), none, 2⟩, ⟨(some 41), (.mov (.t 3)), none, 2⟩, ⟨(some 42), (.call (.c (.fn 16 [])) [(.t 38), (.t 39), (.t 40), (.t 41)]), none, 2⟩, ⟨(some 43), (.mov (.t 0)), none, 2⟩, ⟨(some 44), (.mov (.t 1)), none, 2⟩, ⟨(some 45), (.mov (.t 2)), none, 2⟩, ⟨(some 46), (.mov (.t 3)), none, 2⟩, ⟨(some 47), (.call (.c (.fn 16 [])) [(.t 43), (.t 44), (.t 45), (.t 46)]), none, 2⟩, ⟨(some 9), (.alloc (.agg [(.int 0), (.int 0), (.int 0), (.int 0), (.str []), (.u32 0), (.u32 0), (.u32 0), (.u32 0), (.u32 0), (.u32 0), (.u32 0), (.u32 0), (.u32 0), (.u32 0), (.u32 0), (.u32 0), (.u32 0), (.u32 0), (.u32 0), (.u32 0), (.sl true 0 0 (.agg []) true), (.sl true 0 0 (.agg []) true), (.sl true 0 0 (.agg []) true), (.sl true 0 0 (.agg []) true), (.sl true 0 0 (.agg []) true)])), none, 2⟩, ⟨(some 10), (.alloc (.agg [(.int 0), (.int 0), (.int 0), (.int 0), (.str []), (.u32 0), (.u32 0), (.u32 0), (.u32 0), (.u32 0), (.u32 0), (.u32 0), (.u32 0), (.u32 0), (.u32 0), (.u32 0), (.u32 0), (.u32 0), (.u32 0), (.u32 0), (.u32 0), (.sl true 0 0 (.agg []) true), (.sl true 0 0 (.agg []) true), (.sl true 0 0 (.agg []) true), (.sl true 0 0 (.agg []) true), (.sl true 0 0 (.agg []) true)])), none, 2⟩, ⟨none, (.store (some 26) (.t 9) (.t 42)), none, 2⟩, ⟨none, (.store (some 26) (.t 10) (.t 47)), none, 2⟩] [])
 (.seq (.reg [⟨(some 49), (.load (some 26) (.t 9)), none, 2⟩, ⟨(some 50), (.call (.c (.fn 17 [])) [(.t 49)]), none, 2⟩, ⟨(some 48), (.mov (.t 50)), none, 2⟩, ⟨(some 51), (.ext (.t 48) 0), none, 2⟩, ⟨(some 52), (.ext (.t 48) 1), none, 2⟩, ⟨(some 11), (.mov (.t 51)), none, 2⟩, ⟨(some 12), (.mov (.t 52)), none, 2⟩] [])
 (.seq (.seq (.reg [⟨(some 53), (.mov (.t 12)), none, 2⟩, ⟨(some 54), (.un .not (.t 53)), none, 2⟩] [])
 (.cond (.t 54)
 (.seq (.reg [⟨(some 8), (.mov (.c (.bool true))), none, 2⟩] [])
 .ret)
 .skip))
 (.seq (.reg [⟨(some 56), (.mov (.t 11)), none, 2⟩, ⟨(some 57), (.call (.c (.fn 20 [])) [(.t 56)]), none, 2⟩, ⟨(some 55), (.mov (.t 57)), none, 2⟩, ⟨(some 58), (.ext (.t 55) 0), none, 2⟩, ⟨(some 59), (.ext (.t 55) 1), none, 2⟩, ⟨(some 13), (.alloc (.agg [(.int 0), (.int 0), (.int 0), (.int 0), (.str []), (.u32 0), (.u32 0), (.u32 0), (.u32 0), (.u32 0), (.u32 0), (.u32 0), (.u32 0), (.u32 0), (.u32 0), (.u32 0), (.u32 0), (.u32 0), (.u32 0), (.u32 0), (.u32 0), (.sl true 0 0 (.agg []) true), (.sl true 0 0 (.agg []) true), (.sl true 0 0 (.agg []) true), (.sl true 0 0 (.agg []) true), (.sl true 0 0 (.agg []) true)])), none, 2⟩, ⟨none, (.store (some 26) (.t 13) (.t 58)), none, 2⟩, ⟨(some 14), (.mov (.t 59)), none, 2⟩] [])
 (.seq (.reg [⟨(some 60), (.fad 21 (.t 13)), none, 2⟩, ⟨(some 61), (.load none (.t 60)), none, 2⟩, ⟨(some 62), (.fad 22 (.t 13)), none, 2⟩, ⟨(some 63), (.load none (.t 62)), none, 2⟩, ⟨(some 64), (.fad 23 (.t 13)), none, 2⟩, ⟨(some 65), (.load none (.t 64)), none, 2⟩, ⟨(some 66), (.fad 24 (.t 13)), none, 2⟩, ⟨(some 67), (.load none (.t 66)), none, 2⟩, ⟨(some 68), (.fad 25 (.t 13)), none, 2⟩, ⟨(some 69), (.load none (.t 68)), none, 2⟩, ⟨(some 70), (.bsl false .other 1 5 [(.sl true 0 0 (.agg []) true)] [(0, (1, (.t 61))), (1, (1, (.t 63))), (2, (1, (.t 65))), (3, (1, (.t 67))), (4, (1, (.t 69)))]), none, 2⟩, ⟨(some 15), (.mov (.t 70)), none, 2⟩] [])
 (.seq (.seq (.reg [⟨(some 16), (.mov (.c (.int 0))), none, 2⟩] [])
 (.block 0 (.loop (.seq (.seq (.reg [⟨(some 71), (.mov (.t 16)), none, 2⟩, ⟨(some 72), (.mov (.t 15)), none, 2⟩, ⟨(some 73), (.len false (.t 72)), none, 2⟩, ⟨(some 74), (.bin .lss (.t 71) (.t 73)), none, 2⟩] [])
 (.cond (.t 74)
 .skip
 (.exit 0)))
 (.seq (.block 1 (.seq (.reg [⟨(some 17), (.mov (.c (.int 0))), none, 2⟩] [])
 (.block 2 (.loop (.seq (.seq (.reg [⟨(some 77), (.mov (.t 17)), none, 2⟩, ⟨(some 78), (.mov (.t 15)), none, 2⟩, ⟨(some 79), (.mov (.t 16)), none, 2⟩, ⟨(some 80), (.iadS 1 (.t 78) (.t 79)), none, 2⟩, ⟨(some 81), (.load none (.t 80)), none, 2⟩, ⟨(some 82), (.len false (.t 81)), none, 2⟩, ⟨(some 83), (.bin .lss (.t 77) (.t 82)), none, 2⟩] [])
 (.cond (.t 83)
 .skip
 (.exit 2)))
 (.seq (.block 3 (.reg [⟨(some 86), (.mov (.t 15)), none, 2⟩, ⟨(some 87), (.mov (.t 16)), none, 2⟩, ⟨(some 88), (.iadS 1 (.t 86) (.t 87)), none, 2⟩, ⟨(some 89), (.load none (.t 88)), none, 2⟩, ⟨(some 90), (.mov (.t 17)), none, 2⟩, ⟨(some 91), (.iadS 1 (.t 89) (.t 90)), none, 2⟩, ⟨(some 92), (.load none (.t 91)), none, 2⟩, ⟨(some 93), (.bin .add (.t 92) (.c (.u8 1))), none, 2⟩, ⟨(some 94), (.iadS 1 (.t 89) (.t 90)), none, 2⟩, ⟨none, (.store none (.t 94) (.t 93)), none, 2⟩] []))
 (.reg [⟨(some 84), (.mov (.t 17)), none, 2⟩, ⟨(some 85), (.bin .add (.t 84) (.c (.int 1))), none, 2⟩, ⟨(some 17), (.mov (.t 85)), none, 2⟩] [])))))))
 (.reg [⟨(some 75), (.mov (.t 16)), none, 2⟩, ⟨(some 76), (.bin .add (.t 75) (.c (.int 1))), none, 2⟩, ⟨(some 16), (.mov (.t 76)), none, 2⟩] []))))))
 (.seq (.reg [⟨(some 96), (.mov (.t 11)), none, 2⟩, ⟨(some 97), (.call (.c (.fn 20 [])) [(.t 96)]), none, 2⟩, ⟨(some 95), (.mov (.t 97)), none, 2⟩, ⟨(some 98), (.ext (.t 95) 0), none, 2⟩, ⟨(some 99), (.ext (.t 95) 1), none, 2⟩, ⟨(some 18), (.alloc (.agg [(.int 0), (.int 0), (.int 0), (.int 0), (.str []), (.u32 0), (.u32 0), (.u32 0), (.u32 0), (.u32 0), (.u32 0), (.u32 0), (.u32 0), (.u32 0), (.u32 0), (.u32 0), (.u32 0), (.u32 0), (.u32 0), (.u32 0), (.u32 0), (.sl true 0 0 (.agg []) true), (.sl true 0 0 (.agg []) true), (.sl true 0 0 (.agg []) true), (.sl true 0 0 (.agg []) true), (.sl true 0 0 (.agg []) true)])), none, 2⟩, ⟨none, (.store (some 26) (.t 18) (.t 98)), none, 2⟩, ⟨(some 19), (.mov (.t 99)), none, 2⟩] [])
 (.seq (.reg [⟨(some 100), (.mov (.t 1)), none, 2⟩, ⟨(some 101), (.mov (.t 2)), none, 2⟩, ⟨(some 102), (.mov (.t 3)), none, 2⟩, ⟨(some 103), (.call (.c (.fn 34 [])) [(.t 100), (.t 101), (.t 102)]), none, 2⟩, ⟨(some 20), (.alloc (.agg [(.int 0), (.str []), (.sl true 0 0 (.agg []) true), (.u32 0), (.u32 0), (.u32 0), (.u32 0), (.u32 0), (.u32 0), (.u32 0), (.u32 0), (.u32 0), (.u32 0), (.u32 0), (.u32 0), (.u32 0), (.u32 0), (.u32 0), (.u32 0), (.sl true 0 0 (.agg []) true), (.int 0), (.int 0), (.int 0)])), none, 2⟩, ⟨none, (.store (some 23) (.t 20) (.t 103)), none, 2⟩] [])
 (.seq (.reg [⟨(some 105), (.load (some 23) (.t 20)), none, 2⟩, ⟨(some 106), (.call (.c (.fn 35 [])) [(.t 105)]), none, 2⟩, ⟨(some 104), (.mov (.t 106)), none, 2⟩, ⟨(some 107), (.ext (.t 104) 0), none, 2⟩, ⟨(some 108), (.ext (.t 104) 1), none, 2⟩, ⟨(some 21), (.mov (.t 107)), none, 2⟩, ⟨(some 22), (.mov (.t 108)), none, 2⟩] [])
 (.seq (.reg [⟨(some 110), (.mov (.t 21)), none, 2⟩, ⟨(some 111), (.call (.c (.fn 37 [])) [(.t 110)]), none, 2⟩, ⟨(some 109), (.mov (.t 111)), none, 2⟩, ⟨(some 112), (.ext (.t 109) 0), none, 2⟩, ⟨(some 113), (.ext (.t 109) 1), none, 2⟩, ⟨(some 23), (.alloc (.agg [(.int 0), (.str []), (.sl true 0 0 (.agg []) true), (.u32 0), (.u32 0), (.u32 0), (.u32 0), (.u32 0), (.u32 0), (.u32 0), (.u32 0), (.u32 0), (.u32 0), (.u32 0), (.u32 0), (.u32 0), (.u32 0), (.u32 0), (.u32 0), (.sl true 0 0 (.agg []) true), (.int 0), (.int 0), (.int 0)])), none, 2⟩, ⟨none, (.store (some 23) (.t 23) (.t 112)), none, 2⟩, ⟨(some 24), (.mov (.t 113)), none, 2⟩] [])
 (.seq (.seq (.reg [⟨(some 25), (.mov (.c (.int 0))), none, 2⟩] [])
 (.block 4 (.loop (.seq (.seq (.reg [⟨(some 114), (.mov (.t 25)), none, 2⟩, ⟨(some 115), (.fad 2 (.t 23)), none, 2⟩, ⟨(some 116), (.load none (.t 115)), none, 2⟩, ⟨(some 117), (.len false (.t 116)), none, 2⟩, ⟨(some 118), (.bin .lss (.t 114) (.t 117)), none, 2⟩] [])
 (.cond (.t 118)
 .skip
 (.exit 4)))
 (.seq (.block 5 (.reg [⟨(some 121), (.fad 2 (.t 23)), none, 2⟩, ⟨(some 122), (.load none (.t 121)), none, 2⟩, ⟨(some 123), (.mov (.t 25)), none, 2⟩, ⟨(some 124), (.iadS 1 (.t 122) (.t 123)), none, 2⟩, ⟨(some 125), (.load none (.t 124)), none, 2⟩, ⟨(some 126), (.bin .add (.t 125) (.c (.u8 1))), none, 2⟩, ⟨(some 127), (.iadS 1 (.t 122) (.t 123)), none, 2⟩, ⟨none, (.store none (.t 127) (.t 126)), none, 2⟩] []))
 (.reg [⟨(some 119), (.mov (.t 25)), none, 2⟩, ⟨(some 120), (.bin .add (.t 119) (.c (.int 1))), none, 2⟩, ⟨(some 25), (.mov (.t 120)), none, 2⟩] []))))))
 (.seq (.reg [⟨(some 129), (.mov (.t 21)), none, 2⟩, ⟨(some 130), (.call (.c (.fn 37 [])) [(.t 129)]), none, 2⟩, ⟨(some 128), (.mov (.t 130)), none, 2⟩, ⟨(some 131), (.ext (.t 128) 0), none, 2⟩, ⟨(some 132), (.ext (.t 128) 1), none, 2⟩, ⟨(some 26), (.alloc (.agg [(.int 0), (.str []), (.sl true 0 0 (.agg []) true), (.u32 0), (.u32 0), (.u32 0), (.u32 0), (.u32 0), (.u32 0), (.u32 0), (.u32 0), (.u32 0), (.u32 0), (.u32 0), (.u32 0), (.u32 0), (.u32 0), (.u32 0), (.u32 0), (.sl true 0 0 (.agg []) true), (.int 0), (.int 0), (.int 0)])), none, 2⟩, ⟨none, (.store (some 23) (.t 26) (.t 131)), none, 2⟩, ⟨(some 27), (.mov (.t 132)), none, 2⟩] [])
 (.seq (.reg [⟨(some 133), (.load (some 26) (.t 9)), none, 1⟩, ⟨(some 134), (.load (some 26) (.t 10)), none, 1⟩, ⟨(some 135), (.call (.c (.fn 21 [])) [(.t 133), (.t 134)]), none, 0⟩, ⟨(some 136), (.mov (.t 135)), none, 0⟩, ⟨(some 137), (.mov (.t 19)), (some (136, true)), 0⟩, ⟨(some 138), (.pick (.t 136) (.t 137) (.c (.bool false))), none, 0⟩, ⟨(some 139), (.mov (.t 138)), none, 0⟩, ⟨(some 140), (.load (some 26) (.t 18)), (some (139, true)), 1⟩, ⟨(some 141), (.load (some 26) (.t 10)), (some (139, true)), 1⟩, ⟨(some 142), (.call (.c (.fn 21 [])) [(.t 140), (.t 141)]), (some (139, true)), 0⟩, ⟨(some 143), (.pick (.t 139) (.t 142) (.c (.bool false))), none, 0⟩, ⟨(some 144), (.mov (.t 143)), none, 0⟩, ⟨(some 145), (.mov (.t 27)), (some (144, true)), 0⟩, ⟨(some 146), (.pick (.t 144) (.t 145) (.c (.bool false))), none, 0⟩, ⟨(some 147), (.mov (.t 146)), none, 0⟩, ⟨(some 148), (.load (some 23) (.t 26)), (some (147, true)), 1⟩, ⟨(some 149), (.mov (.t 1)), (some (147, true)), 0⟩, ⟨(some 150), (.mov (.t 2)), (some (147, true)), 0⟩, ⟨(some 151), (.mov (.t 3)), (some (147, true)), 0⟩, ⟨(some 152), (.call (.c (.fn 34 [])) [(.t 149), (.t 150), (.t 151)]), (some (147, true)), 0⟩, ⟨(some 153), (.call (.c (.fn 38 [])) [(.t 148), (.t 152)]), (some (147, true)), 0⟩, ⟨(some 154), (.pick (.t 147) (.t 153) (.c (.bool false))), none, 0⟩, ⟨(some 155), (.mov (.t 154)), none, 0⟩, ⟨(some 156), (.fad 3 (.t 20)), (some (155, true)), 0⟩, ⟨(some 157), (.load (some 8) (.t 156)), (some (155, true)), 1⟩, ⟨(some 158), (.call (.c (.fn 41 [])) [(.t 157)]), (some (155, true)), 0⟩, ⟨(some 159), (.bin .leq (.t 158) (.c (.int 32))), (some (155, true)), 0⟩, ⟨(some 160), (.pick (.t 155) (.t 159) (.c (.bool false))), none, 0⟩, ⟨(some 8), (.mov (.t 160)), none, 0⟩] [])
 .ret))))))))))))))))
theorem o14 : FnOK Try.prog 14 N14 res14 c14 := ⟨_, _, Try.f14.results.toList, [], pures, Try.func14, show _ = some (Try.f14.body.getD .skip) by kernel_rfl, (Array.toArray_toList).symm, by kernel_rfl, by kernel_rfl, by kernel_rfl, by kernel_rfl, follows, callFunc_enter Try.func14 (by kernel_rfl) (by kernel_rfl)⟩
open Go.Proofs
set_option maxRecDepth 100000

def nW : AV → Nat
 | .wsl n => n
 | _ => 0
def rowW (i : AV) : AV → Nat
 | .sl _ _ _ (.agg l) _ => match i with
   | .int i => match lget l i.toNat with | some a => nW a | none => 0
   | _ => 0
 | _ => 0
def objW (i k : Nat) (h : List AO) : Nat := match hget h i with
 | some ob => match cget ob.c k with | some (_, a) => nW a | none => 0
 | none => 0
theorem w64_succ {k : Nat} (h : k < 9223372036854775807) : w64 ((k : Int) + 1) = ((k + 1 : Nat) : Int) := by rw [w64_in (by omega)]; omega
def LO0 (s : SL) (h : List AO) : LI where
 X := Nat
 x0 := 0
 pre i := i ≤ 5
 inv i := ([(0, look s 0), (1, look s 1), (2, look s 2), (3, look s 3), (9, look s 9), (10, look s 10), (11, look s 11), (15, look s 15), (16, .int (ilit i))], h)
 mu i := 5 - i
 ren := false
def LO2 (s : SL) (h : List AO) : LI where
 X := Nat
 x0 := 0
 pre k := k ≤ rowW (look s 16) (look s 15)
 inv k := ([(0, look s 0), (1, look s 1), (2, look s 2), (3, look s 3), (9, look s 9), (10, look s 10), (11, look s 11), (15, look s 15), (16, look s 16), (17, .int k)], h)
 mu k := rowW (look s 16) (look s 15) - k
 ren := false
def LO4 (s : SL) (h : List AO) : LI where
 X := Nat
 x0 := 0
 pre k := k ≤ objW 5 2 h
 inv k := ([(0, look s 0), (1, look s 1), (2, look s 2), (3, look s 3), (9, look s 9), (10, look s 10), (18, look s 18), (19, look s 19), (20, look s 20), (21, look s 21), (23, look s 23), (25, .int k)], h)
 mu k := objW 5 2 h - k
 ren := false
def LO (id : Nat) (s : SL) (h : List AO) : LI := match id with
 | 0 => LO0 s h
 | 2 => LO2 s h
 | _ => LO4 s h
theorem rightsB {m : Msg} (h : m.rightW = true) : m.salt.l.length ≤ 1000 ∧ m.sea.l.length ≤ 1000 ∧ m.tag.l.length ≤ 1000 ∧ m.tok.l.length ≤ 1000 ∧ m.rcd.l.length ≤ 1000 := by
 rw [right_eq] at h
 simp only [Msg.rightR, Msg.okR, Bool.and_eq_true, Bool.or_eq_true, decide_eq_true_eq, beq_iff_eq, Bool.not_eq_true', decide_eq_false_iff_not] at h
 obtain ⟨_, _, _, _, _, _, h1, h2, h3, h4, h5, _⟩ := h
 refine ⟨by omega, by omega, by omega, by omega, by omega⟩
theorem rightsN {m d : Msg} (h : m.isW = true) (e : d.norm = m.norm) : d.salt.l.length ≤ 1000 ∧ d.sea.l.length ≤ 1000 ∧ d.tag.l.length ≤ 1000 ∧ d.tok.l.length ≤ 1000 ∧ d.rcd.l.length ≤ 1000 := by
 rw [← isW_same e] at h
 unfold Msg.isW at h
 simp only [Bool.and_eq_true] at h
 exact rightsB h.1
theorem rec_out {r : Rec} (h : r.ok = true) : r.outW.l.length ≤ 1099511627776 ∧ r.salt.l.length ≤ 1000 ∧ r.sea.l.length ≤ 1000 ∧ r.v.low = true := by
 have h0 := h
 simp only [Rec.ok, Bool.and_eq_true, decide_eq_true_eq] at h0
 obtain ⟨_, _, hn, h1, h2, hv, _⟩ := h0
 have hn : r.name.length ≤ 16 := by
  simp only [nameOK, Bool.and_eq_true, decide_eq_true_eq] at hn
  omega
 refine ⟨?_, by omega, by omega, hv⟩
 rw [rec_bytes h]
 simp only [List.length_cons, List.length_append, be4_len, atB_len _ 8 (by omega)]
 omega
theorem rec_sameN {m d : Rec} (h : m.ok = true) (e : d.norm = m.norm) : d.salt.l.length ≤ 1000 ∧ d.sea.l.length ≤ 1000 := by
 have h1 := rec_out h
 have e1 : d.salt.l = m.salt.l := congrArg (fun x => x.salt.l) e
 have e2 : d.sea.l = m.sea.l := congrArg (fun x => x.sea.l) e
 rw [e1, e2]
 exact ⟨h1.2.1, h1.2.2.1⟩
def e20x : SpE := spAt 2 e20w e20
def e37x : SpE := spAt 5 e37w e37
set_option maxHeartbeats 20000000 in
theorem fn14 (kind n : Int) (s : List UInt8) (b : By) : ACalls Try.prog 14 [.int kind, .int n, .str s, b.A] [] (fun a h => a = .bool true ∧ h = []) := by
 refine o14.runS [(15, e15), (16, e16), (17, e17), (20, e20x), (21, e21), (34, e34), (35, e35), (37, e37x), (38, e38), (41, e41)] keep14 0 (LO) (own := false) (kn := 0)
  (.cons ok15 o15.enter (.cons ok16 o16.enter (.cons ok17 o17.enter (.cons (spAt_ok ok20w ok20) o20.enter (.cons ok21 o21.enter (.cons ok34 o34.enter (.cons ok35 o35.enter (.cons (spAt_ok ok37w ok37) o37.enter (.cons ok38 o38.enter (.cons ok41 o41.enter .nil)))))))))) (Nat.le_of_ble_eq_true rfl) rfl (Nat.le_refl _) (fun Γ hsp hkp hk0 hinv κ hκ => ?_)
 dsimp only [keep14] at hkp
 dsimp only [By.A]
 refine goLawOwn1 ?_
 refine fork_intro (fun h1 => ?_) (fun h1 => ?_)
 ·refine goLawOwn1 ?_
  subst hκ
  dsimp only [res14, go_sem, Nat.succ, Int.reduceToNat, Nat.reduceAdd, Nat.reduceMul, Nat.reduceSub, Int.reduceLT, Int.reduceLE, Int.reduceNeg, UInt64.reduceToNat, UInt32.reduceToNat, UInt8.reduceToNat]
  and_intros <;> first | trivial | rfl | omega
 have h1 := of_decide_eq_false h1
 refine RUN.cond rfl (p := decide (100 < (b.l.length : Int))) rfl (fun h2 => ?_) (fun h2 => ?_)
 ·refine goLawOwn1 ?_
  subst hκ
  dsimp only [res14, go_sem, Nat.succ, Int.reduceToNat, Nat.reduceAdd, Nat.reduceMul, Nat.reduceSub, Int.reduceLT, Int.reduceLE, Int.reduceNeg, UInt64.reduceToNat, UInt32.reduceToNat, UInt8.reduceToNat]
  and_intros <;> first | trivial | rfl | omega
 have h2 := of_decide_eq_false h2
 refine goLawOwn1 ?_
 generalize hM : makeM kind n s b = m
 cases hW : m.isW
 ·refine RUN.cond rfl (p := true) rfl (fun _ => ?_) (fun h__ => by cases h__)
  refine goLawOwn1 ?_
  subst hκ
  dsimp only [res14, go_sem, Nat.succ, Int.reduceToNat, Nat.reduceAdd, Nat.reduceMul, Nat.reduceSub, Int.reduceLT, Int.reduceLE, Int.reduceNeg, UInt64.reduceToNat, UInt32.reduceToNat, UInt8.reduceToNat]
  and_intros <;> first | trivial | rfl | omega
 refine RUN.cond rfl (p := false) rfl (fun h__ => by cases h__) (fun _ => ?_)
 have hO : m.outW.l.length ≤ 1099511627776 := by
  have h := hW
  unfold Msg.isW at h
  simp only [Bool.and_eq_true, decide_eq_true_eq] at h
  unfold Msg.outW
  rw [hW]
  simp only [List.length_append, List.length_cons, List.length_nil]
  omega
 have hc := make_chan kind n s b
 rw [hM] at hc
 obtain ⟨d, hd, hdn⟩ := decW_back m m.outW.nil hW hc
 have hd : decW m.outW = some d := hd
 obtain ⟨n1, n2, n3, n4, n5⟩ := rightsN hW hdn
 refine goLawOwn1 ?_
 simp only [hd, orZ, Option.isSome]
 obtain ⟨rk, ra, rr⟩ := rec_right n s b
 obtain ⟨u, hu, hun⟩ := readW_back (recM n s b) (recM n s b).outW.nil rk ra rr
 have hu : readW (recM n s b).outW = some u := hu
 obtain ⟨r1, r2, r3, r4⟩ := rec_out rk
 obtain ⟨n6, n7⟩ := rec_sameN rk hun
 refine RUN.loop hk0 hinv rfl rfl (L := LO0 _ _) rfl rfl rfl ?_ ?_ (fun (i : Nat) (hi : i ≤ 5) κ1 h3 => ?_)
 ·dsimp only [LO0, fits, eqS, eqH, ilit, go_sem, Nat.succ, Int.reduceToNat, Nat.reduceAdd, Nat.reduceMul, Nat.reduceSub, Int.reduceLT, Int.reduceLE, Int.reduceNeg, UInt64.reduceToNat, UInt32.reduceToNat, UInt8.reduceToNat]
  and_intros <;> first | rfl | trivial | exact .inl rfl
 ·exact Nat.zero_le _
 dsimp only [LO0, go_sem, Nat.succ, Int.reduceToNat, Nat.reduceAdd, Nat.reduceMul, Nat.reduceSub, Int.reduceLT, Int.reduceLE, Int.reduceNeg, UInt64.reduceToNat, UInt32.reduceToNat, UInt8.reduceToNat]
 refine goLawOwn1 ?_
 rcases i with _ | _ | _ | _ | _ | _ | i
 case succ.succ.succ.succ.succ.succ => exact absurd hi (by omega)
 case succ.succ.succ.succ.succ.zero =>
  dsimp only [ilit]
  refine goLawOwn1 ?_
  simp only [hd, hu, orZ, orZR, Option.isSome]
  refine RUN.loop hk0 hinv rfl rfl (L := LO4 _ _) rfl rfl rfl ?_ ?_ (fun (k : Nat) hk κ2 h4 => ?_)
  ·dsimp only [LO4, fits, eqS, eqH, go_sem, Nat.succ, Int.reduceToNat, Nat.reduceAdd, Nat.reduceMul, Nat.reduceSub, Int.reduceLT, Int.reduceLE, Int.reduceNeg, UInt64.reduceToNat, UInt32.reduceToNat, UInt8.reduceToNat]
   and_intros <;> first | rfl | trivial | exact .inl rfl
  ·exact Nat.zero_le _
  dsimp only [LO4, objW, nW, go_sem, Nat.succ, Int.reduceToNat, Nat.reduceAdd, Nat.reduceMul, Nat.reduceSub, Int.reduceLT, Int.reduceLE, Int.reduceNeg, UInt64.reduceToNat, UInt32.reduceToNat, UInt8.reduceToNat] at hk ⊢
  refine goLawOwn1 ?_
  refine RUN.cond rfl rfl (fun h5 => ?_) (fun h5 => ?_)
  ·have h5 := of_decide_eq_true h5
   refine goLawOwn1 ?_
   subst h4
   dsimp only [loopK, fits, LO4, eqS, eqH, objW, nW, go_sem, Nat.succ, Int.reduceToNat, Nat.reduceAdd, Nat.reduceMul, Nat.reduceSub, Int.reduceLT, Int.reduceLE, Int.reduceNeg, UInt64.reduceToNat, UInt32.reduceToNat, UInt8.reduceToNat]
   rw [w64_succ (by omega)]
   refine ⟨k + 1, by omega, by omega, ?_⟩
   and_intros <;> first | rfl | trivial | exact .inl rfl
  ·clear h4 h3 hk
   refine goLawOwn1 ?_
   have e1 : m.same m = true := (same_norm m m).2 rfl
   have e2 : d.same m = true := (same_norm d m).2 hdn
   have e3 : (readW (recM n s b).outW).isSome = true := by rw [hu]; rfl
   have e4 : (orZR (readW (recM n s b).outW)).same (recM n s b) = true := by rw [hu]; exact (rec_same_norm u _).2 hun
   have e5 : decide ((recM n s b).v.bitsR ≤ 32) = true := decide_eq_true ((Num.bitsR_le _).2 r4)
   rw [e1, e2, e3, e4, e5]
   dsimp only [fork_true, fork_false]
   refine ⟨⟨by omega, by omega⟩, ?_⟩
   refine RUN.ret rfl ?_
   subst hκ
   dsimp only [res14, go_sem, Nat.succ, Int.reduceToNat, Nat.reduceAdd, Nat.reduceMul, Nat.reduceSub, Int.reduceLT, Int.reduceLE, Int.reduceNeg, UInt64.reduceToNat, UInt32.reduceToNat, UInt8.reduceToNat]
   and_intros <;> first | trivial | rfl | omega
 all_goals
  dsimp only [ilit]
  refine goLawOwn1 ?_
  refine RUN.loop hk0 hinv rfl rfl (L := LO2 _ _) rfl rfl rfl ?_ ?_ (fun (k : Nat) hk κ2 h4 => ?_)
  ·dsimp only [LO2, fits, eqS, eqH, ilit, go_sem, Nat.succ, Int.reduceToNat, Nat.reduceAdd, Nat.reduceMul, Nat.reduceSub, Int.reduceLT, Int.reduceLE, Int.reduceNeg, UInt64.reduceToNat, UInt32.reduceToNat, UInt8.reduceToNat]
   and_intros <;> first | rfl | trivial | exact .inl rfl
  ·exact Nat.zero_le _
  dsimp only [LO2, rowW, nW, go_sem, Nat.succ, Int.reduceToNat, Nat.reduceAdd, Nat.reduceMul, Nat.reduceSub, Int.reduceLT, Int.reduceLE, Int.reduceNeg, UInt64.reduceToNat, UInt32.reduceToNat, UInt8.reduceToNat] at hk ⊢
  refine goLawOwn1 ?_
  refine RUN.cond rfl rfl (fun h5 => ?_) (fun h5 => ?_)
  ·have h5 := of_decide_eq_true h5
   refine goLawOwn1 ?_
   subst h4
   dsimp only [loopK, fits, LO2, eqS, eqH, rowW, nW, go_sem, Nat.succ, Int.reduceToNat, Nat.reduceAdd, Nat.reduceMul, Nat.reduceSub, Int.reduceLT, Int.reduceLE, Int.reduceNeg, UInt64.reduceToNat, UInt32.reduceToNat, UInt8.reduceToNat]
   rw [w64_succ (by omega)]
   refine ⟨k + 1, by omega, by omega, ?_⟩
   and_intros <;> first | rfl | trivial | exact .inl rfl
  ·refine goLawOwn1 ?_
   subst h3
   dsimp only [loopK, fits, LO0, eqS, eqH, go_sem, Nat.succ, Int.reduceToNat, Nat.reduceAdd, Nat.reduceMul, Nat.reduceSub, Int.reduceLT, Int.reduceLE, Int.reduceNeg, UInt64.reduceToNat, UInt32.reduceToNat, UInt8.reduceToNat]
   first
   | refine ⟨1, by omega, by omega, ?_⟩
   | refine ⟨2, by omega, by omega, ?_⟩
   | refine ⟨3, by omega, by omega, ?_⟩
   | refine ⟨4, by omega, by omega, ?_⟩
   | refine ⟨5, by omega, by omega, ?_⟩
   dsimp only [ilit]
   and_intros <;> first | rfl | trivial | exact .inl rfl
end Go.Abs
