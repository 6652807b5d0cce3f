/-
  Own work. Conditions: none. The walk of the law WireBad.
-/
import Derived.Test.YtmgefdndbcgoiaaWireD
set_option linter.unusedVariables false
set_option linter.unusedSimpArgs false
set_option linter.unnecessarySimpa false
namespace Go.Abs
open Go.Proofs
set_option maxRecDepth 100000

def t11_66 : CC := (.seq (.reg [⟨(some 66), (.mov (.t 13)), none, 2⟩, ⟨(some 67), (.bsl false .u8 1 0 [(.u8 0)] []), none, 2⟩, ⟨(some 68), (.mov (.t 14)), none, 2⟩, ⟨(some 69), (.app true 1 1 (.t 67) (.t 68)), none, 2⟩, ⟨(some 70), (.mov (.t 16)), none, 2⟩, ⟨(some 71), (.app true 1 1 (.t 69) (.t 70)), none, 2⟩, ⟨(some 72), (.call (.c (.fn 28 [])) [(.t 66), (.t 71)]), none, 2⟩] []) (.seq (.reg [⟨(some 74), (.mov (.t 13)), none, 2⟩, ⟨(some 75), (.call (.c (.fn 30 [])) [(.t 74)]), none, 2⟩, ⟨(some 73), (.mov (.t 75)), none, 2⟩, ⟨(some 76), (.ext (.t 73) 0), none, 2⟩, ⟨(some 77), (.ext (.t 73) 1), none, 2⟩, ⟨(some 17), (.alloc (.agg [(.int 0), (.int 0), (.int 0), (.int 0), (.str []), (.u32 0), (.u32 0), (.u32 0), (.u32 0), (.u32 0), (.u32 0), (.u32 0), (.u32 0), (.u32 0), (.u32 0), (.u32 0), (.u32 0), (.u32 0), (.u32 0), (.u32 0), (.u32 0), (.sl true 0 0 (.agg []) true), (.sl true 0 0 (.agg []) true), (.sl true 0 0 (.agg []) true), (.sl true 0 0 (.agg []) true), (.sl true 0 0 (.agg []) true)])), none, 2⟩, ⟨none, (.store (some 26) (.t 17) (.t 76)), none, 2⟩, ⟨(some 18), (.mov (.t 77)), none, 2⟩] []) (.seq (.seq (.reg [⟨(some 78), (.mov (.t 18)), none, 2⟩, ⟨(some 79), (.mov (.t 14)), none, 2⟩, ⟨(some 80), (.len false (.t 79)), none, 2⟩, ⟨(some 81), (.bin .gtr (.t 80) (.c (.int 0))), none, 2⟩, ⟨(some 82), (.eq true .bool (.t 78) (.t 81)), none, 2⟩] []) (.cond (.t 82) (.seq (.reg [⟨(some 12), (.mov (.c (.bool false))), none, 2⟩] []) .ret) .skip)) (.seq (.seq (.reg [⟨(some 83), (.mov (.t 18)), none, 2⟩] []) (.cond (.t 83) (.seq (.reg [⟨(some 85), (.mov (.t 13)), none, 2⟩, ⟨(some 86), (.call (.c (.fn 30 [])) [(.t 85)]), none, 2⟩, ⟨(some 84), (.mov (.t 86)), none, 2⟩, ⟨(some 87), (.ext (.t 84) 0), none, 2⟩, ⟨(some 88), (.ext (.t 84) 1), none, 2⟩, ⟨(some 19), (.alloc (.agg [(.int 0), (.int 0), (.int 0), (.int 0), (.str []), (.u32 0), (.u32 0), (.u32 0), (.u32 0), (.u32 0), (.u32 0), (.u32 0), (.u32 0), (.u32 0), (.u32 0), (.u32 0), (.u32 0), (.u32 0), (.u32 0), (.u32 0), (.u32 0), (.sl true 0 0 (.agg []) true), (.sl true 0 0 (.agg []) true), (.sl true 0 0 (.agg []) true), (.sl true 0 0 (.agg []) true), (.sl true 0 0 (.agg []) true)])), none, 2⟩, ⟨none, (.store (some 26) (.t 19) (.t 87)), none, 2⟩, ⟨(some 20), (.mov (.t 88)), none, 2⟩] []) (.seq (.reg [⟨(some 89), (.mov (.t 20)), none, 2⟩] []) (.cond (.t 89) (.seq (.reg [⟨(some 12), (.mov (.c (.bool false))), none, 2⟩] []) .ret) .skip))) .skip)) (.seq (.reg [⟨(some 91), (.mov (.t 13)), none, 2⟩, ⟨(some 92), (.call (.c (.fn 30 [])) [(.t 91)]), none, 2⟩, ⟨(some 90), (.mov (.t 92)), none, 2⟩, ⟨(some 93), (.ext (.t 90) 0), none, 2⟩, ⟨(some 94), (.ext (.t 90) 1), none, 2⟩, ⟨(some 21), (.alloc (.agg [(.int 0), (.int 0), (.int 0), (.int 0), (.str []), (.u32 0), (.u32 0), (.u32 0), (.u32 0), (.u32 0), (.u32 0), (.u32 0), (.u32 0), (.u32 0), (.u32 0), (.u32 0), (.u32 0), (.u32 0), (.u32 0), (.u32 0), (.u32 0), (.sl true 0 0 (.agg []) true), (.sl true 0 0 (.agg []) true), (.sl true 0 0 (.agg []) true), (.sl true 0 0 (.agg []) true), (.sl true 0 0 (.agg []) true)])), none, 2⟩, ⟨none, (.store (some 26) (.t 21) (.t 93)), none, 2⟩, ⟨(some 22), (.mov (.t 94)), none, 2⟩] []) (.seq (.reg [⟨(some 96), (.mov (.t 16)), none, 2⟩, ⟨(some 97), (.call (.c (.fn 23 [])) [(.t 96)]), none, 2⟩, ⟨(some 95), (.mov (.t 97)), none, 2⟩, ⟨(some 98), (.ext (.t 95) 0), none, 2⟩, ⟨(some 99), (.ext (.t 95) 1), none, 2⟩, ⟨(some 23), (.alloc (.agg [(.int 0), (.int 0), (.int 0), (.int 0), (.str []), (.u32 0), (.u32 0), (.u32 0), (.u32 0), (.u32 0), (.u32 0), (.u32 0), (.u32 0), (.u32 0), (.u32 0), (.u32 0), (.u32 0), (.u32 0), (.u32 0), (.u32 0), (.u32 0), (.sl true 0 0 (.agg []) true), (.sl true 0 0 (.agg []) true), (.sl true 0 0 (.agg []) true), (.sl true 0 0 (.agg []) true), (.sl true 0 0 (.agg []) true)])), none, 2⟩, ⟨none, (.store (some 26) (.t 23) (.t 98)), none, 2⟩, ⟨(some 24), (.mov (.t 99)), none, 2⟩] []) (.seq (.reg [⟨(some 100), (.mov (.t 13)), none, 2⟩, ⟨(some 101), (.call (.c (.fn 32 [])) [(.t 100)]), none, 2⟩, ⟨(some 102), (.mov (.t 101)), none, 2⟩, ⟨(some 103), (.mov (.t 22)), (some (102, true)), 2⟩, ⟨(some 104), (.un .not (.t 103)), (some (102, true)), 2⟩, ⟨(some 105), (.pick (.t 102) (.t 104) (.c (.bool false))), none, 2⟩, ⟨(some 106), (.mov (.t 105)), none, 2⟩, ⟨(some 107), (.mov (.t 24)), (some (106, true)), 2⟩, ⟨(some 108), (.un .not (.t 107)), (some (106, true)), 2⟩, ⟨(some 109), (.pick (.t 106) (.t 108) (.c (.bool false))), none, 2⟩, ⟨(some 110), (.mov (.t 109)), none, 2⟩, ⟨(some 111), (.fad 0 (.t 23)), (some (110, true)), 2⟩, ⟨(some 112), (.load none (.t 111)), (some (110, true)), 2⟩, ⟨(some 113), (.eq false .sc (.t 112) (.c (.int 0))), (some (110, true)), 2⟩, ⟨(some 114), (.pick (.t 110) (.t 113) (.c (.bool false))), none, 2⟩, ⟨(some 115), (.mov (.t 114)), none, 2⟩, ⟨(some 116), (.mov (.t 13)), (some (115, true)), 2⟩, ⟨(some 117), (.mov (.t 5)), (some (115, true)), 2⟩, ⟨(some 118), (.call (.c (.fn 28 [])) [(.t 116), (.t 117)]), (some (115, true)), 2⟩, ⟨(some 119), (.un .not (.t 118)), (some (115, true)), 2⟩, ⟨(some 120), (.pick (.t 115) (.t 119) (.c (.bool false))), none, 2⟩, ⟨(some 121), (.mov (.t 120)), none, 2⟩, ⟨(some 122), (.mov (.t 13)), (some (121, true)), 2⟩, ⟨(some 123), (.mov (.t 14)), (some (121, true)), 2⟩, ⟨(some 124), (.call (.c (.fn 28 [])) [(.t 122), (.t 123)]), (some (121, true)), 2⟩, ⟨(some 125), (.un .not (.t 124)), (some (121, true)), 2⟩, ⟨(some 126), (.pick (.t 121) (.t 125) (.c (.bool false))), none, 2⟩, ⟨(some 127), (.mov (.t 126)), none, 2⟩, ⟨(some 128), (.mov (.t 13)), (some (127, true)), 2⟩, ⟨(some 129), (.call (.c (.fn 32 [])) [(.t 128)]), (some (127, true)), 2⟩, ⟨(some 130), (.pick (.t 127) (.t 129) (.c (.bool false))), none, 2⟩, ⟨(some 12), (.mov (.t 130)), none, 2⟩] []) .ret)))))))
def c11_ : CC := (.seq (.reg [⟨(some 12), (.mov (.c (.bool false))), none, 2⟩] []) (.seq (.seq (.reg [⟨(some 25), (.call (.c (.fn 15 [])) []), none, 2⟩, ⟨(some 26), (.un .not (.t 25)), none, 2⟩] []) (.cond (.t 26) (.seq (.reg [⟨(some 12), (.mov (.c (.bool false))), none, 2⟩] []) .ret) .skip)) (.seq (.seq (.reg [⟨(some 27), (.mov (.t 2)), none, 2⟩, ⟨(some 28), (.len true (.t 27)), none, 2⟩, ⟨(some 29), (.bin .gtr (.t 28) (.c (.int 40))), none, 2⟩, ⟨(some 30), (.mov (.t 29)), none, 2⟩, ⟨(some 31), (.mov (.t 3)), (some (30, false)), 2⟩, ⟨(some 32), (.len false (.t 31)), (some (30, false)), 2⟩, ⟨(some 33), (.bin .gtr (.t 32) (.c (.int 100))), (some (30, false)), 2⟩, ⟨(some 34), (.pick (.t 30) (.c (.bool true)) (.t 33)), none, 2⟩, ⟨(some 35), (.mov (.t 34)), none, 2⟩, ⟨(some 36), (.mov (.t 5)), (some (35, false)), 2⟩, ⟨(some 37), (.len false (.t 36)), (some (35, false)), 2⟩, ⟨(some 38), (.bin .gtr (.t 37) (.c (.int 60))), (some (35, false)), 2⟩, ⟨(some 39), (.pick (.t 35) (.c (.bool true)) (.t 38)), none, 2⟩] []) (.cond (.t 39) (.seq (.reg [⟨(some 12), (.mov (.c (.bool true))), none, 2⟩] []) .ret) .skip)) (.seq (.reg [⟨(some 40), (.call (.c (.fn 26 [])) []), none, 2⟩, ⟨(some 13), (.mov (.t 40)), none, 2⟩] []) (.seq (.seq (.reg [⟨(some 41), (.mov (.t 13)), none, 2⟩, ⟨(some 42), (.eq false .ptr (.t 41) (.c .nilp)), none, 2⟩] []) (.cond (.t 42) (.seq (.reg [⟨(some 12), (.mov (.c (.bool false))), none, 2⟩] []) .ret) .skip)) (.seq (.reg [⟨(some 44), (.mov (.t 0)), none, 2⟩, ⟨(some 45), (.mov (.t 1)), none, 2⟩, ⟨(some 46), (.mov (.t 2)), none, 2⟩, ⟨(some 47), (.mov (.t 3)), none, 2⟩, ⟨(some 48), (.call (.c (.fn 16 [])) [(.t 44), (.t 45), (.t 46), (.t 47)]), none, 2⟩, ⟨(some 49), (.call (.c (.fn 18 [])) [(.t 48)]), none, 2⟩, ⟨(some 43), (.mov (.t 49)), none, 2⟩, ⟨(some 50), (.ext (.t 43) 0), none, 2⟩, ⟨(some 51), (.ext (.t 43) 1), none, 2⟩, ⟨(some 14), (.mov (.t 50)), none, 2⟩, ⟨(some 15), (.mov (.t 51)), none, 2⟩] []) (.seq (.reg [⟨(some 52), (.bsl false .u8 1 2 [(.u8 0)] [(0, (1, (.c (.u8 0)))), (1, (1, (.c (.u8 201))))]), none, 2⟩, ⟨(some 53), (.bsl false .u8 1 2 [(.u8 0)] [(0, (1, (.c (.u8 255)))), (1, (1, (.c (.u8 255))))]), none, 2⟩, ⟨(some 54), (.bsl false .u8 1 2 [(.u8 0)] [(0, (1, (.c (.u8 0)))), (1, (1, (.c (.u8 0))))]), none, 2⟩, ⟨(some 55), (.bsl false .u8 1 3 [(.u8 0)] [(0, (1, (.c (.u8 0)))), (1, (1, (.c (.u8 1)))), (2, (1, (.c (.u8 0))))]), none, 2⟩, ⟨(some 56), (.bsl false .u8 1 3 [(.u8 0)] [(0, (1, (.c (.u8 0)))), (1, (1, (.c (.u8 1)))), (2, (1, (.c (.u8 13))))]), none, 2⟩, ⟨(some 57), (.bsl false .u8 1 4 [(.u8 0)] [(0, (1, (.c (.u8 0)))), (1, (1, (.c (.u8 2)))), (2, (1, (.c (.u8 7)))), (3, (1, (.c (.u8 0))))]), none, 2⟩, ⟨(some 58), (.bsl false .u8 1 5 [(.u8 0)] [(0, (1, (.c (.u8 0)))), (1, (1, (.c (.u8 3)))), (2, (1, (.c (.u8 5)))), (3, (1, (.c (.u8 11)))), (4, (1, (.c (.u8 0))))]), none, 2⟩, ⟨(some 59), (.bsl false .u8 1 6 [(.u8 0)] [(0, (1, (.c (.u8 0)))), (1, (1, (.c (.u8 4)))), (2, (1, (.c (.u8 5)))), (3, (1, (.c (.u8 11)))), (4, (1, (.c (.u8 1)))), (5, (1, (.c (.u8 0))))]), none, 2⟩, ⟨(some 60), (.bsl false .u8 1 6 [(.u8 0)] [(0, (1, (.c (.u8 0)))), (1, (1, (.c (.u8 4)))), (2, (1, (.c (.u8 5)))), (3, (1, (.c (.u8 11)))), (4, (1, (.c (.u8 1)))), (5, (1, (.c (.u8 12))))]), none, 2⟩, ⟨(some 61), (.bsl false .other 1 9 [(.sl true 0 0 (.agg []) true)] [(0, (1, (.t 52))), (1, (1, (.t 53))), (2, (1, (.t 54))), (3, (1, (.t 55))), (4, (1, (.t 56))), (5, (1, (.t 57))), (6, (1, (.t 58))), (7, (1, (.t 59))), (8, (1, (.t 60)))]), none, 2⟩, ⟨(some 62), (.mov (.t 4)), none, 2⟩, ⟨(some 63), (.call (.c (.fn 22 [])) [(.t 62), (.c (.int 9))]), none, 2⟩, ⟨(some 64), (.iadS 1 (.t 61) (.t 63)), none, 2⟩, ⟨(some 65), (.load none (.t 64)), none, 2⟩, ⟨(some 16), (.mov (.t 65)), none, 2⟩] []) t11_66)))))))
theorem c11_eq : c11 = c11_ := by kernel_rfl

/-- within, where one answer is known. -/
def e22n (v : Int) (K j : Nat) : SpE := ⟨true, fun xs h => match xs with
  | [.int a, .int b] => match Nat.beq b.toNat K with
    | true => .v (some (a = v ∧ b = (K : Int))) (.int (ilit j))
    | false => .v (some (0 < b ∧ b < 2 ^ 62)) (.int (within1 a b))
  | _ => .no⟩
theorem ok22n {v : Int} {K j : Nat} (hK : 0 < K ∧ K < 1000) (hj : within1 v K = ilit j) : SpE.ok Try.prog 22 (e22n v K j) := by
  intro args h
  unfold e22n
  simp only
  split
  · rename_i C A he
    split at he
    · rename_i a b
      have key : ∀ (C' : Option Prop) (A' : AV), (holds C' → 0 < b ∧ b < 2 ^ 62) → (holds C' → A' = .int (within1 a b)) → holds C' → ACalls Try.prog 22 [.int a, .int b] h (fun r h' => r = A' ∧ h' = h) := fun C' A' h1 h2 hC => by
        rw [h2 hC]
        exact ok22 [.int a, .int b] h (h1 hC)
      split at he
      · cases he
        exact key _ _ (fun hC => by obtain ⟨_, rfl⟩ := hC; omega) (fun hC => by obtain ⟨rfl, rfl⟩ := hC; rw [hj])
      · cases he
        exact key _ _ (fun hC => hC) (fun _ => rfl)
    · cases he
  · rename_i C A h1 he; split at he <;> (try split at he) <;> cases he
  · rename_i C h1 he; split at he <;> (try split at he) <;> cases he
  · trivial
def G11 (which : Int) (j : Nat) : G := G0 keep11 [(15, e15), (16, e16), (18, e18), (22, (e22n which 9 j)), (23, e23), (26, eNew), (28, e28), (30, (eNextW decW)), (32, eBad)]
def K11 (which : Int) (j : Nat) : KT := leafK (G11 which j).sp res11 false 0 (fun a h => a = .bool true ∧ h = [])
theorem g11_keep (which : Int) (j : Nat) : (G11 which j).keep = keep11 := rfl
theorem g11_k0 (which : Int) (j : Nat) : (G11 which j).k0 = 0 := rfl
theorem g11_15 (which : Int) (j : Nat) : sfind (G11 which j).sp 15 = some e15 := rfl
theorem g11_16 (which : Int) (j : Nat) : sfind (G11 which j).sp 16 = some e16 := rfl
theorem g11_18 (which : Int) (j : Nat) : sfind (G11 which j).sp 18 = some e18 := rfl
theorem g11_22 (which : Int) (j : Nat) : sfind (G11 which j).sp 22 = some (e22n which 9 j) := rfl
theorem g11_23 (which : Int) (j : Nat) : sfind (G11 which j).sp 23 = some e23 := rfl
theorem g11_26 (which : Int) (j : Nat) : sfind (G11 which j).sp 26 = some eNew := rfl
theorem g11_28 (which : Int) (j : Nat) : sfind (G11 which j).sp 28 = some e28 := rfl
theorem g11_30 (which : Int) (j : Nat) : sfind (G11 which j).sp 30 = some (eNextW decW) := rfl
theorem g11_32 (which : Int) (j : Nat) : sfind (G11 which j).sp 32 = some eBad := rfl

set_option maxHeartbeats 4000000 in
theorem tail11 (which : Int) (j : Nat) (m : Msg) (hm : m.isW = true) (hc : m.channel < 9223372036854775808) (more : By) (hmo : more.l.length ≤ 60) (bd : List UInt8) (hb : BadB bd) (k : Nat) (hk : k = bd.length) (fl : Bool) (v0 v1 v2 v3 v4 v12 v18 v20 v22 v23 v24 v26 v39 v42 v82 v83 v89 : AV) : run (G11 which j) t11_66 (K11 which j) [] (K11 which j) [(0, v0), (1, v1), (2, v2), (3, v3), (4, v4), (5, more.A), (12, v12), (13, .ptr 0 0 0), (14, m.outW.A), (16, .sl false k 1 (.ab bd) fl), (18, v18), (20, v20), (22, v22), (23, v23), (24, v24), (26, v26), (39, v39), (42, v42), (82, v82), (83, v83), (89, v89)] [⟨0, Sw.new.A, false⟩] := by
  subst hk
  dsimp only [g11_keep, g11_k0, g11_15, g11_16, g11_18, g11_22, g11_23, g11_26, g11_28, g11_30, g11_32, K11, t11_66, keep11, res11, e15, e16, e18, e22n, e23, e28, eBad, eNew, eNextW, Sw.new, Num.eta, By.eta, msgD, Msg.eta, Msg.C, swD, Sw.eta, Sw.A, By.A, run, runOps, onER, doOp, noOp, ifB, onG, onGd, onB, onL, xfB, lookB, ↓fork_true, ↓fork_false, chkC, evc, vOnly, ev, evBin, evUn, evEq, evConv, evSlice, evApp, appSl, appMs, evCall, sfind, srcS, rdS, nilK, ctakeT0, eq1, eqs, shn, ngt, xv, xvs, xi, look, Go.Abs.put, trim, conj, both, argS, leafK, resv, one, one1, ofC, frzL, frzV, hasMs, hasMsL, hlen, hget, hset, hsnoc, htake, lget, ldrop, ltake, lset, lapp, lput, llen, lrep, cget, csub, cexp, exU8, exU32, exInt, cset, cput, capp, clen, toC, csubT, ctakeT, cdropT, celT, mulz, typed, ab?, ai?, au?, zeros, lay, lenS, offS, fulS, cutS, cutT, bnds, below, belowL, hbelow, sbelow, xfind, fits, eqS, eqH, eqO, loopK, sameS, sameH, SameL, Nat.beq, Nat.ble, Int.reduceToNat, Nat.reduceAdd, Nat.reduceMul, Nat.reduceSub, Int.reduceLT, Int.reduceLE, Int.reduceNeg, UInt64.reduceToNat, UInt32.reduceToNat, UInt8.reduceToNat, G0, GL, ev0, ev1, ev2, ev3, ev4, intD, u32D, u8D, boolD, strD, byD, numD, intsD, By.A, Num.C, sp0, s0f, objOf, peelB, startK, entryK, finB, allX, andE, GK, GKL, GR, onR, rfind, noR, fdShape, elT, allN, endR, retR, failK, rangeP, Nat.blt, Nat.succ, evP, l0D, l1D, l2D, frzI, frzR, ownF, frzC, frzA, frzJ, allFz, nestL]
  obtain ⟨_, s2, s3⟩ := out_size m hm [] true 0
  obtain ⟨hb6, hb1, hb2⟩ := hb
  have e3 : List.take (m.outW.l.length * m.outW.l.length) m.outW.l = m.outW.l := List.take_of_length_le (Nat.le_mul_of_pos_left _ (by omega))
  have e4 : List.take (m.outW.l.length + bd.length) (List.drop 0 (m.outW.l ++ bd)) = m.outW.l ++ bd := by rw [List.drop_zero, ← List.length_append, List.take_length]
  have la : (m.outW.l ++ bd).length = m.outW.l.length + bd.length := List.length_append
  have hW : (Sw.mk ⟨true, []⟩ 0 false).wrote ⟨false, m.outW.l ++ bd⟩ = ⟨⟨false, m.outW.l ++ bd⟩, w64 (0 + ((m.outW.l ++ bd).length : Int)), false⟩ := by
    have ho : (Sw.mk ⟨true, []⟩ 0 false).over = false := rfl
    have hc2 : catB ⟨true, []⟩ ⟨false, m.outW.l ++ bd⟩ = ⟨false, m.outW.l ++ bd⟩ := by
      unfold catB
      rw [decide_eq_true (by show 0 < 0 + (m.outW.l ++ bd).length; omega)]; rfl
    rw [Sw.wrote, ho]
    simp only [hc2]
  rw [e3, e4, hW]
  obtain ⟨d, d1, _, d2⟩ := first_of m hm hc bd false (w64 (0 + ((m.outW.l ++ bd).length : Int)))
  obtain ⟨t1, t2⟩ := hb1 false (w64 (0 + ((m.outW.l ++ bd).length : Int)))
  have lq := nextW_len ⟨⟨false, bd⟩, w64 (0 + ((m.outW.l ++ bd).length : Int)), false⟩
  rw [d1, d2, t1]
  generalize (Sw.mk ⟨false, bd⟩ (w64 (0 + ((m.outW.l ++ bd).length : Int))) false).nextW decW = q at *
  obtain ⟨qb, qn, qbad⟩ := q
  have t2 : qbad = true := t2
  subst t2
  obtain ⟨b1, b2, b3⟩ := bad_of qb qn
  have lq : qb.l.length ≤ bd.length := lq
  have w1 : (Sw.mk qb qn true).wrote more = ⟨qb, qn, true⟩ := by rw [Sw.wrote, b3]
  have w2 : (Sw.mk qb qn true).wrote m.outW = ⟨qb, qn, true⟩ := by rw [Sw.wrote, b3]
  have w3 : (Sw.mk qb qn true).wrote ⟨m.outW.nil, m.outW.l⟩ = ⟨qb, qn, true⟩ := w2
  have r0 := hb2 false
  simp only [b1, b2, w1, w2, w3, b3, r0, la]
  have z : (orZ none).kind = 0 := rfl
  have dl : decide (0 < (m.outW.l.length : Int)) = true := decide_eq_true (by omega)
  rw [dl]
  repeat' (first | (refine fork_intro (fun h => ?_) (fun h => ?_)) | (refine And.intro ?_ ?_))
  all_goals first | exact True.intro | omega | (simp only [List.length_nil]; omega) | (cases h; done) | (simp [z] at h; done) | rfl
set_option maxHeartbeats 8000000 in
theorem fn11 (kind n : Int) (s : List UInt8) (b : By) (which : Int) (more : By) : ACalls Try.prog 11 [.int kind, .int n, .str s, b.A, .int which, more.A] [] (fun a h => a = .bool true ∧ h = []) := by
  obtain ⟨j, hj, hv⟩ : ∃ j : Nat, j < 9 ∧ within1 which ((9 : Nat) : Int) = ilit j := by
    have h := within1_in (a := which) (b := 9) (by omega)
    exact ⟨(within1 which 9).toNat, by omega, by rw [ilit_eq]; show within1 which 9 = _; omega⟩
  refine run11 (Γ := G11 which j) (own := false) (kn := 0) (.cons ok15 in15 (.cons ok16 in16 (.cons ok18 in18 (.cons (ok22n (by omega) hv) in22 (.cons ok23 in23 (.cons (okNew fn26) in26 (.cons ok28 in28 (.cons (ok30 ok20) in30 (.cons ok32 in32 .nil))))))))) (Nat.le_of_ble_eq_true rfl) rfl (Nat.le_refl _) ?_
  rw [c11_eq]
  show run (G11 which j) c11_ (K11 which j) [] (K11 which j) (argS 0 _) []
  have dn : ∀ {p : SL}, look p 12 = .bool true → K11 which j p [] := fun {p} h => by
    show leafK _ [.t 12] _ _ _ _ _
    simp only [leafK, resv, h, ownF, frzL, frzV, frzR]
    exact ⟨by first | rfl | trivial, by first | rfl | trivial⟩
  have hm := make_isW kind n s b
  have hch := make_chan kind n s b
  have hn := make_name kind n s b
  have ho := make_out kind n s b
  have hbad := badL_bad j
  rcases j with _ | _ | _ | _ | _ | _ | _ | _ | _ | j
  all_goals first | omega | skip
  all_goals
    dsimp only [g11_keep, g11_k0, g11_15, g11_16, g11_18, g11_22, g11_23, g11_26, g11_28, g11_30, g11_32, c11_, keep11, e15, e16, e18, e22n, e23, e28, eBad, eNew, eNextW, ilit, Num.eta, By.eta, msgD, Msg.eta, Msg.C, run, runOps, onER, doOp, noOp, ifB, onG, onGd, onB, onL, xfB, lookB, ↓fork_true, ↓fork_false, chkC, evc, vOnly, ev, evBin, evUn, evEq, evConv, evSlice, evApp, appSl, appMs, evCall, sfind, srcS, rdS, nilK, ctakeT0, eq1, eqs, shn, ngt, xv, xvs, xi, look, Go.Abs.put, trim, conj, both, argS, leafK, resv, one, one1, ofC, frzL, frzV, hasMs, hasMsL, hlen, hget, hset, hsnoc, htake, lget, ldrop, ltake, lset, lapp, lput, llen, lrep, cget, csub, cexp, exU8, exU32, exInt, cset, cput, capp, clen, toC, csubT, ctakeT, cdropT, celT, mulz, typed, ab?, ai?, au?, zeros, lay, lenS, offS, fulS, cutS, cutT, bnds, below, belowL, hbelow, sbelow, xfind, fits, eqS, eqH, eqO, loopK, sameS, sameH, SameL, Nat.beq, Nat.ble, Int.reduceToNat, Nat.reduceAdd, Nat.reduceMul, Nat.reduceSub, Int.reduceLT, Int.reduceLE, Int.reduceNeg, UInt64.reduceToNat, UInt32.reduceToNat, UInt8.reduceToNat, G0, GL, ev0, ev1, ev2, ev3, ev4, intD, u32D, u8D, boolD, strD, byD, numD, intsD, By.A, Num.C, sp0, s0f, objOf, peelB, startK, entryK, finB, allX, andE, GK, GKL, GR, onR, rfind, noR, fdShape, elT, allN, endR, retR, failK, rangeP, Nat.blt, Nat.succ, evP, l0D, l1D, l2D, frzI, frzR, ownF, frzC, frzA, frzJ, allFz, nestL]
    refine fork_intro (fun h => by cases h) (fun _ => fork_intro (fun _ => dn rfl) (fun h1 => fork_intro (fun _ => dn rfl) (fun h2 => fork_intro (fun _ => dn rfl) (fun h3 => ?_))))
    have h1 := of_decide_eq_false h1
    have h2 := of_decide_eq_false h2
    have h3 := of_decide_eq_false h3
    simp only [← out_eq]
    refine ⟨⟨by omega, by omega⟩, hn, ⟨by trivial, by trivial⟩, by omega, tail11 which _ (makeM kind n s b) hm hch more (by omega) _ hbad _ (by rfl) _ _ _ _ _ _ _ _ _ _ _ _ _ _ _ _ _ _⟩
end Go.Abs
