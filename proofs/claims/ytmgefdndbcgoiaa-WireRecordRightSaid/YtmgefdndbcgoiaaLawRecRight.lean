/-
  Own work. Conditions: none. Contracts: a number of numbers. The walk of the law WireRecordRight.
-/
import Derived.Test.YtmgefdndbcgoiaaWireC
set_option linter.unusedVariables false
set_option linter.unusedSimpArgs false
set_option linter.unnecessarySimpa false
namespace Go.Abs
open Go.Proofs
set_option maxRecDepth 100000

/-- A limb of a number. -/
def limbStep (l : List UInt32) (i : Nat) (m : Int) : List UInt32 :=
  if within1 m 5 = 0 then
    (if within1 m 7 = 0 then ((l.set i (UInt32.ofInt m ^^^ UInt32.ofInt (m / 2 ^ min 32 64) * 7)).set i (4294967295 - UInt32.ofInt (within1 (w64 (m.tdiv 5)) 3))).set i (UInt32.ofInt (within1 (w64 (m.tdiv 7)) 3))
    else (l.set i (UInt32.ofInt m ^^^ UInt32.ofInt (m / 2 ^ min 32 64) * 7)).set i (4294967295 - UInt32.ofInt (within1 (w64 (m.tdiv 5)) 3)))
  else
    (if within1 m 7 = 0 then (l.set i (UInt32.ofInt m ^^^ UInt32.ofInt (m / 2 ^ min 32 64) * 7)).set i (UInt32.ofInt (within1 (w64 (m.tdiv 7)) 3))
    else l.set i (UInt32.ofInt m ^^^ UInt32.ofInt (m / 2 ^ min 32 64) * 7))
theorem limbStep_len (l : List UInt32) (i : Nat) (m : Int) : (limbStep l i m).length = l.length := by
  unfold limbStep; repeat' split
  all_goals simp
def limbsTo (l : List Int) : Nat → List UInt32
  | 0 => List.replicate 8 0
  | i + 1 => limbStep (limbsTo l i) i (l.getD i 0)
theorem limbsTo_len (l : List Int) : ∀ i, (limbsTo l i).length = 8
  | 0 => rfl
  | i + 1 => by rw [limbsTo, limbStep_len, limbsTo_len l i]
def zeroFrom (l : List UInt32) (j : Nat) : Nat → List UInt32
  | 0 => l
  | i + 1 => (zeroFrom l j i).set (j + i) 0
theorem zeroFrom_len (l : List UInt32) (j : Nat) : ∀ i, (zeroFrom l j i).length = l.length
  | 0 => rfl
  | i + 1 => by rw [zeroFrom, List.length_set, zeroFrom_len l j i]
def notTo (l : List UInt32) : Nat → List UInt32
  | 0 => l
  | i + 1 => (notTo l i).set i (~~~ ((notTo l i).getD i 0))
theorem notTo_len (l : List UInt32) : ∀ i, (notTo l i).length = l.length
  | 0 => rfl
  | i + 1 => by rw [notTo, List.length_set, notTo_len l i]
def limbs0 (l : List Int) : List UInt32 := limbsTo l (min 8 l.length)
def makeN (kind : Int) (l : List Int) : List UInt32 := if within1 kind 6 = 0 then zeroFrom (limbs0 l) 1 7 else if within1 kind 6 = 1 then notTo (limbs0 l) 8 else if within1 kind 6 = 2 then zeroFrom (limbs0 l) 4 4 else limbs0 l
def z8 : AV := .agg [.u32 0, .u32 0, .u32 0, .u32 0, .u32 0, .u32 0, .u32 0, .u32 0]
def L40a (kind : Int) (l : Ints) : LI where
  X := Nat
  x0 := 0
  pre i := i ≤ 8 ∧ i ≤ l.l.length
  inv i := ([(0, .int kind), (1, l.A), (4, .ptr 0 0 0), (5, .ptr 1 0 0), (6, .int i)], [⟨0, z8, false⟩, ⟨0, .au (limbsTo l.l i), false⟩])
  mu i := 8 - i
  ren := false
def L40b (l : Ints) : LI where
  X := Nat
  x0 := 0
  pre i := i ≤ 7
  inv i := ([(4, .ptr 0 0 0), (5, .ptr 1 0 0), (7, .int (1 + (i : Int)))], [⟨0, z8, false⟩, ⟨0, .au (zeroFrom (limbs0 l.l) 1 i), false⟩])
  mu i := 7 - i
  ren := false
def L40c (l : Ints) : LI where
  X := Nat
  x0 := 0
  pre i := i ≤ 8
  inv i := ([(4, .ptr 0 0 0), (5, .ptr 1 0 0), (8, .int i)], [⟨0, z8, false⟩, ⟨0, .au (notTo (limbs0 l.l) i), false⟩])
  mu i := 8 - i
  ren := false
def L40d (l : Ints) : LI where
  X := Nat
  x0 := 0
  pre i := i ≤ 4
  inv i := ([(4, .ptr 0 0 0), (5, .ptr 1 0 0), (9, .int (4 + (i : Int)))], [⟨0, z8, false⟩, ⟨0, .au (zeroFrom (limbs0 l.l) 4 i), false⟩])
  mu i := 4 - i
  ren := false
set_option maxHeartbeats 4000000 in
theorem fn40 (kind : Int) (l : Ints) : ACalls Try.prog 40 [.int kind, l.A] [] (fun a h => numD a = some (Num.of (makeN kind l.l)) ∧ h = []) := by
  refine run40 (Γ := { sp := [(71, e71)], keep := keep40, k0 := 0, inv := fun i s' h' => match Nat.beq i 0 with | true => L40a kind l | false => match Nat.beq i 3 with | true => L40b l | false => match Nat.beq i 5 with | true => L40c l | false => L40d l }) (own := false) (kn := 0) (.cons ok71 in71 .nil) (Nat.le_of_ble_eq_true rfl) rfl (Nat.le_refl _) ?_
  dsimp only [c40, keep40, res40, e71, Num.eta, Ints.A, isD, L40a, L40b, L40c, L40d, z8, numD, run, runOps, onER, doOp, noOp, ifB, onG, onGd, onB, onL, xfB, lookB, ↓fork_true, ↓fork_false, chkC, evc, vOnly, ev, evBin, evUn, evEq, evConv, evSlice, evApp, appSl, appMs, evCall, sfind, srcS, rdS, nilK, ctakeT0, eq1, eqs, shn, ngt, xv, xvs, xi, look, Go.Abs.put, trim, conj, both, argS, leafK, resv, one, one1, ofC, frzL, frzV, hasMs, hasMsL, hlen, hget, hset, hsnoc, htake, lget, ldrop, ltake, lset, lapp, lput, llen, lrep, cget, csub, cexp, exU8, exU32, exInt, cset, cput, capp, clen, toC, csubT, ctakeT, cdropT, celT, mulz, typed, ab?, ai?, au?, zeros, lay, lenS, offS, fulS, cutS, cutT, bnds, below, belowL, hbelow, sbelow, xfind, fits, eqS, eqH, eqO, loopK, sameS, sameH, SameL, Nat.beq, Nat.ble, Int.reduceToNat, Nat.reduceAdd, Nat.reduceMul, Nat.reduceSub, Int.reduceLT, Int.reduceLE, Int.reduceNeg, UInt64.reduceToNat, UInt32.reduceToNat, UInt8.reduceToNat, G0, GL, ev0, ev1, ev2, ev3, ev4, intD, u32D, u8D, boolD, strD, byD, numD, intsD, By.A, Num.C, sp0, s0f, objOf, peelB, startK, entryK, finB, allX, andE, GK, GKL, GR, onR, rfind, noR, fdShape, elT, allN, endR, retR, failK, rangeP, Nat.blt, Nat.succ, evP, l0D, l1D, l2D, frzI, frzR, ownF, frzC, frzA, frzJ, allFz, nestL]
  refine ⟨⟨⟨?_, ?_⟩, by omega, by omega⟩, fun i hi => fork_and (fun h h2 => ?_) (fun hh => ?_)⟩
  · and_intros <;> first | trivial | rfl
  · and_intros <;> first | trivial | rfl | exact .inl rfl | exact .inr ⟨rfl, rfl⟩
  · have h := of_decide_eq_true h
    have h2 := of_decide_eq_true h2
    have hl := limbsTo_len l.l i
    have h8 : i < 8 := by omega
    simp only [Int.toNat_natCast, Nat.zero_add, List.getD_cons_zero]
    have st : limbsTo l.l (i + 1) = limbStep (limbsTo l.l i) i (l.l.getD i 0) := rfl
    generalize l.l.getD i 0 = m at *
    generalize limbsTo l.l i = L at *
    have lm : ∀ (x : UInt32) (k : List UInt32), (k.set i x).length = k.length := fun x k => List.length_set
    repeat' (first | (refine fork_intro (fun h3 => ?_) (fun h3 => ?_)) | (refine And.intro ?_ ?_))
    all_goals first | omega | (simp only [lm]; omega) | (simp only [List.length_cons, List.length_nil]; omega) | skip
    all_goals
      refine ⟨i + 1, ⟨by omega, by omega⟩, by omega, ⟨by trivial, by trivial, by trivial, by trivial, ?_, by trivial⟩, ⟨by trivial, by trivial, .inl rfl⟩, ⟨by trivial, by trivial, .inl ?_⟩, by trivial⟩
      · rw [w64_in (n := (i : Int) + 1) (by omega)]; rfl
      · simp only [beq_iff_eq, beq_eq_false_iff_ne, ne_eq] at *
        rw [st, limbStep]
        simp only [*, if_true, if_false]
  · have him : i = min 8 l.l.length := by
      rcases hh with hh | hh
      · have := of_decide_eq_false hh; omega
      · have := of_decide_eq_false hh; omega
    have hl0 : limbsTo l.l i = limbs0 l.l := by rw [limbs0, him]
    have hl := limbsTo_len l.l i
    rw [hl0] at hl ⊢
    have z1 := fun x => zeroFrom_len (limbs0 l.l) 1 x
    have z4 := fun x => zeroFrom_len (limbs0 l.l) 4 x
    have nn := fun x => notTo_len (limbs0 l.l) x
    have fin : ∀ (L : List UInt32), L = makeN kind l.l → some (Num.mk (L.getD 0 0) (L.getD 1 0) (L.getD 2 0) (L.getD 3 0) (L.getD 4 0) (L.getD 5 0) (L.getD 6 0) (L.getD 7 0)) = some (Num.of (makeN kind l.l)) := fun L e => by
      rw [← e]; rfl
    refine ⟨by omega, fork_intro (fun k => ?_) (fun k => fork_intro (fun k2 => ?_) (fun k2 => fork_intro (fun k3 => ?_) (fun k3 => ?_)))⟩
    · have k : within1 kind 6 = 0 := by simpa using k
      refine ⟨⟨⟨?_, ?_⟩, by omega⟩, fun x hx => fork_intro (fun h => ?_) (fun h => ?_)⟩
      · and_intros <;> first | trivial | rfl
      · and_intros <;> first | trivial | rfl | exact .inl rfl
      · have h := of_decide_eq_true h
        refine ⟨by omega, by rw [z1]; omega, x + 1, by omega, by omega, ?_, ?_⟩
        · rw [w64_in (n := 1 + (x : Int) + 1) (by omega), show 1 + (x : Int) + 1 = 1 + ((x + 1 : Nat) : Int) by omega]
          and_intros <;> first | trivial | rfl
        · rw [show 0 + (1 + (x : Int)).toNat = 1 + x by omega]
          and_intros <;> first | trivial | rfl | exact .inl rfl
      · have h := of_decide_eq_false h
        obtain rfl : x = 7 := by omega
        exact ⟨by rw [z1, hl]; exact Nat.le_refl _, by trivial, by trivial, by trivial, by omega, fin _ (by rw [makeN, if_pos k]), by trivial⟩
    · have k : ¬ within1 kind 6 = 0 := by simpa using k
      have k2 : within1 kind 6 = 1 := by simpa using k2
      refine ⟨⟨⟨?_, ?_⟩, by omega⟩, fun x hx => fork_intro (fun h => ?_) (fun h => ?_)⟩
      · and_intros <;> first | trivial | rfl
      · and_intros <;> first | trivial | rfl | exact .inl rfl
      · have h := of_decide_eq_true h
        refine ⟨by omega, by rw [nn]; omega, by omega, by rw [nn]; omega, x + 1, by omega, by omega, ?_, ?_⟩
        · rw [w64_in (n := (x : Int) + 1) (by omega)]
          and_intros <;> first | trivial | rfl
        · rw [show 0 + (x : Int).toNat = x by omega]
          and_intros <;> first | trivial | rfl | exact .inl rfl
      · have h := of_decide_eq_false h
        obtain rfl : x = 8 := by omega
        exact ⟨by rw [nn, hl]; exact Nat.le_refl _, by trivial, by trivial, by trivial, by omega, fin _ (by rw [makeN, if_neg k, if_pos k2]), by trivial⟩
    · have k : ¬ within1 kind 6 = 0 := by simpa using k
      have k2 : ¬ within1 kind 6 = 1 := by simpa using k2
      have k3 : within1 kind 6 = 2 := by simpa using k3
      refine ⟨⟨⟨?_, ?_⟩, by omega⟩, fun x hx => fork_intro (fun h => ?_) (fun h => ?_)⟩
      · and_intros <;> first | trivial | rfl
      · and_intros <;> first | trivial | rfl | exact .inl rfl
      · have h := of_decide_eq_true h
        refine ⟨by omega, by rw [z4]; omega, x + 1, by omega, by omega, ?_, ?_⟩
        · rw [w64_in (n := 4 + (x : Int) + 1) (by omega), show 4 + (x : Int) + 1 = 4 + ((x + 1 : Nat) : Int) by omega]
          and_intros <;> first | trivial | rfl
        · rw [show 0 + (4 + (x : Int)).toNat = 4 + x by omega]
          and_intros <;> first | trivial | rfl | exact .inl rfl
      · have h := of_decide_eq_false h
        obtain rfl : x = 4 := by omega
        exact ⟨by rw [z4, hl]; exact Nat.le_refl _, by trivial, by trivial, by trivial, by omega, fin _ (by rw [makeN, if_neg k, if_neg k2, if_pos k3]), by trivial⟩
    · have k : ¬ within1 kind 6 = 0 := by simpa using k
      have k2 : ¬ within1 kind 6 = 1 := by simpa using k2
      have k3 : ¬ within1 kind 6 = 2 := by simpa using k3
      exact ⟨by rw [hl]; exact Nat.le_refl _, by trivial, by trivial, by trivial, by omega, fin _ (by rw [makeN, if_neg k, if_neg k2, if_neg k3]), by trivial⟩
theorem fn40' (kind : Int) (l : Ints) : ACalls Try.prog 40 [.int kind, l.A] [] (fun a h => a = .agg (Num.of (makeN kind l.l)).C ∧ h = []) :=
  ACalls.tell (fn40 kind l) (by rintro a h ⟨h1, rfl⟩; exact ⟨_, _, ⟨rfl, rfl⟩, numD_tell _ _ h1, TellH.refl _⟩)
def e40 : SpE := ⟨true, ev2 intD isD (fun _ _ => none) fun k l => .agg (Num.of (makeN k l.l)).C⟩
theorem ok40 : SpE.ok Try.prog 40 e40 := ev2_ok kInt kInts (fun _ _ => rfl) (fun k l _ => fn40' k l)
end Go.Abs

namespace Go.Abs
open Go.Proofs
set_option maxRecDepth 100000

def t8_66 : CC := (.reg [⟨(some 66), (.build [(.u32 0), (.u32 0), (.u32 0), (.u32 0), (.u32 0), (.u32 0), (.u32 0), (.u32 0)] []), none, 2⟩, ⟨(some 67), (.call (.c (.fn 24 [])) [(.c (.int 4294967295))]), none, 2⟩, ⟨(some 68), (.call (.c (.fn 24 [])) [(.c (.int 4294967296))]), none, 2⟩, ⟨(some 69), (.mov (.t 4)), none, 2⟩, ⟨(some 70), (.mov (.t 4)), none, 2⟩, ⟨(some 71), (.mov (.t 4)), none, 2⟩, ⟨(some 72), (.mov (.t 4)), none, 2⟩, ⟨(some 73), (.bsl false .int 1 3 [(.int 0)] [(0, (1, (.t 70))), (1, (1, (.t 71))), (2, (1, (.t 72)))]), none, 2⟩, ⟨(some 74), (.call (.c (.fn 40 [])) [(.t 69), (.t 73)]), none, 2⟩, ⟨(some 75), (.bsl false .other 8 4 [(.u32 0), (.u32 0), (.u32 0), (.u32 0), (.u32 0), (.u32 0), (.u32 0), (.u32 0)] [(0, (8, (.t 66))), (8, (8, (.t 67))), (16, (8, (.t 68))), (24, (8, (.t 74)))]), none, 2⟩, ⟨(some 76), (.mov (.t 4)), none, 2⟩, ⟨(some 77), (.call (.c (.fn 22 [])) [(.t 76), (.c (.int 4))]), none, 2⟩, ⟨(some 78), (.iadS 8 (.t 75) (.t 77)), none, 2⟩, ⟨(some 79), (.load (some 8) (.t 78)), none, 2⟩, ⟨(some 80), (.fad 3 (.t 13)), none, 2⟩, ⟨none, (.store (some 8) (.t 80) (.t 79)), none, 2⟩] [])
def t8_83 : CC := (.reg [⟨(some 83), (.build [(.u32 0), (.u32 0), (.u32 0), (.u32 0), (.u32 0), (.u32 0), (.u32 0), (.u32 0)] []), none, 2⟩, ⟨(some 84), (.call (.c (.fn 24 [])) [(.c (.int 4294967295))]), none, 2⟩, ⟨(some 85), (.call (.c (.fn 24 [])) [(.c (.int 4294967296))]), none, 2⟩, ⟨(some 86), (.mov (.t 4)), none, 2⟩, ⟨(some 87), (.mov (.t 4)), none, 2⟩, ⟨(some 88), (.mov (.t 4)), none, 2⟩, ⟨(some 89), (.mov (.t 4)), none, 2⟩, ⟨(some 90), (.bsl false .int 1 3 [(.int 0)] [(0, (1, (.t 87))), (1, (1, (.t 88))), (2, (1, (.t 89)))]), none, 2⟩, ⟨(some 91), (.call (.c (.fn 40 [])) [(.t 86), (.t 90)]), none, 2⟩, ⟨(some 92), (.bsl false .other 8 4 [(.u32 0), (.u32 0), (.u32 0), (.u32 0), (.u32 0), (.u32 0), (.u32 0), (.u32 0)] [(0, (8, (.t 83))), (8, (8, (.t 84))), (16, (8, (.t 85))), (24, (8, (.t 91)))]), none, 2⟩, ⟨(some 93), (.mov (.t 4)), none, 2⟩, ⟨(some 94), (.call (.c (.fn 22 [])) [(.t 93), (.c (.int 4))]), none, 2⟩, ⟨(some 95), (.iadS 8 (.t 92) (.t 94)), none, 2⟩, ⟨(some 96), (.load (some 8) (.t 95)), none, 2⟩, ⟨(some 97), (.fad 11 (.t 13)), none, 2⟩, ⟨none, (.store (some 8) (.t 97) (.t 96)), none, 2⟩] [])
def t8_126 : CC := (.seq (.reg [⟨(some 126), (.load (some 23) (.t 13)), none, 2⟩, ⟨(some 127), (.call (.c (.fn 35 [])) [(.t 126)]), none, 2⟩, ⟨(some 125), (.mov (.t 127)), none, 2⟩, ⟨(some 128), (.ext (.t 125) 0), none, 2⟩, ⟨(some 129), (.ext (.t 125) 1), none, 2⟩, ⟨(some 14), (.mov (.t 128)), none, 2⟩, ⟨(some 15), (.mov (.t 129)), none, 2⟩] []) (.seq (.reg [⟨(some 131), (.load (some 23) (.t 13)), none, 2⟩, ⟨(some 132), (.call (.c (.fn 36 [])) [(.t 131)]), none, 2⟩, ⟨(some 130), (.mov (.t 132)), none, 2⟩, ⟨(some 133), (.ext (.t 130) 0), none, 2⟩, ⟨(some 134), (.ext (.t 130) 1), none, 2⟩, ⟨(some 16), (.mov (.t 133)), none, 2⟩, ⟨(some 17), (.mov (.t 134)), none, 2⟩] []) (.seq (.reg [⟨(some 135), (.mov (.t 15)), none, 2⟩, ⟨(some 136), (.mov (.t 17)), none, 2⟩, ⟨(some 137), (.eq false .bool (.t 135) (.t 136)), none, 2⟩, ⟨(some 138), (.mov (.t 137)), none, 2⟩, ⟨(some 139), (.mov (.t 14)), (some (138, true)), 2⟩, ⟨(some 140), (.conv .bstr (.t 139)), (some (138, true)), 2⟩, ⟨(some 141), (.mov (.t 16)), (some (138, true)), 2⟩, ⟨(some 142), (.conv .bstr (.t 141)), (some (138, true)), 2⟩, ⟨(some 143), (.eq false .sc (.t 140) (.t 142)), (some (138, true)), 2⟩, ⟨(some 144), (.pick (.t 138) (.t 143) (.c (.bool false))), none, 2⟩, ⟨(some 12), (.mov (.t 144)), none, 2⟩] []) .ret)))
def c8_ : CC := (.seq (.reg [⟨(some 12), (.mov (.c (.bool false))), none, 2⟩] []) (.seq (.seq (.reg [⟨(some 18), (.call (.c (.fn 15 [])) []), none, 2⟩, ⟨(some 19), (.un .not (.t 18)), none, 2⟩] []) (.cond (.t 19) (.seq (.reg [⟨(some 12), (.mov (.c (.bool false))), none, 2⟩] []) .ret) .skip)) (.seq (.seq (.reg [⟨(some 20), (.mov (.t 1)), none, 2⟩, ⟨(some 21), (.len true (.t 20)), none, 2⟩, ⟨(some 22), (.bin .gtr (.t 21) (.c (.int 40))), none, 2⟩, ⟨(some 23), (.mov (.t 22)), none, 2⟩, ⟨(some 24), (.mov (.t 2)), (some (23, false)), 2⟩, ⟨(some 25), (.len false (.t 24)), (some (23, false)), 2⟩, ⟨(some 26), (.bin .gtr (.t 25) (.c (.int 100))), (some (23, false)), 2⟩, ⟨(some 27), (.pick (.t 23) (.c (.bool true)) (.t 26)), none, 2⟩, ⟨(some 28), (.mov (.t 27)), none, 2⟩, ⟨(some 29), (.mov (.t 5)), (some (28, false)), 2⟩, ⟨(some 30), (.len true (.t 29)), (some (28, false)), 2⟩, ⟨(some 31), (.bin .gtr (.t 30) (.c (.int 40))), (some (28, false)), 2⟩, ⟨(some 32), (.pick (.t 28) (.c (.bool true)) (.t 31)), none, 2⟩] []) (.cond (.t 32) (.seq (.reg [⟨(some 12), (.mov (.c (.bool true))), none, 2⟩] []) .ret) .skip)) (.seq (.reg [⟨(some 33), (.mov (.t 0)), none, 2⟩, ⟨(some 34), (.mov (.t 1)), none, 2⟩, ⟨(some 35), (.mov (.t 2)), none, 2⟩, ⟨(some 36), (.call (.c (.fn 34 [])) [(.t 33), (.t 34), (.t 35)]), none, 2⟩, ⟨(some 13), (.alloc (.agg [(.int 0), (.str []), (.sl true 0 0 (.agg []) true), (.u32 0), (.u32 0), (.u32 0), (.u32 0), (.u32 0), (.u32 0), (.u32 0), (.u32 0), (.u32 0), (.u32 0), (.u32 0), (.u32 0), (.u32 0), (.u32 0), (.u32 0), (.u32 0), (.sl true 0 0 (.agg []) true), (.int 0), (.int 0), (.int 0)])), none, 2⟩, ⟨none, (.store (some 23) (.t 13) (.t 36)), none, 2⟩] []) (.seq (.seq (.reg [⟨(some 37), (.mov (.t 3)), none, 2⟩, ⟨(some 38), (.call (.c (.fn 22 [])) [(.t 37), (.c (.int 9))]), none, 2⟩] []) (.block 0 (.seq (.reg [⟨(some 40), (.eq false .sc (.t 38) (.c (.int 0))), none, 2⟩, ⟨(some 39), (.mov (.t 40)), none, 2⟩] []) (.cond (.t 39) (.reg [⟨(some 41), (.mov (.t 4)), none, 2⟩, ⟨(some 42), (.bsl false .int 1 6 [(.int 0)] [(0, (1, (.c (.int (-1))))), (1, (1, (.c (.int 0)))), (2, (1, (.c (.int 1)))), (3, (1, (.c (.int 2)))), (4, (1, (.c (.int 3)))), (5, (1, (.t 41)))]), none, 2⟩, ⟨(some 43), (.mov (.t 4)), none, 2⟩, ⟨(some 44), (.call (.c (.fn 22 [])) [(.t 43), (.c (.int 6))]), none, 2⟩, ⟨(some 45), (.iadS 1 (.t 42) (.t 44)), none, 2⟩, ⟨(some 46), (.load none (.t 45)), none, 2⟩, ⟨(some 47), (.fad 0 (.t 13)), none, 2⟩, ⟨none, (.store none (.t 47) (.t 46)), none, 2⟩] []) (.seq (.reg [⟨(some 49), (.eq false .sc (.t 38) (.c (.int 1))), none, 2⟩, ⟨(some 48), (.mov (.t 49)), none, 2⟩] []) (.cond (.t 48) (.reg [⟨(some 50), (.mov (.t 5)), none, 2⟩, ⟨(some 51), (.fad 1 (.t 13)), none, 2⟩, ⟨none, (.store none (.t 51) (.t 50)), none, 2⟩] []) (.seq (.reg [⟨(some 53), (.eq false .sc (.t 38) (.c (.int 2))), none, 2⟩, ⟨(some 52), (.mov (.t 53)), none, 2⟩] []) (.cond (.t 52) (.reg [⟨(some 54), (.mov (.t 4)), none, 2⟩, ⟨(some 55), (.call (.c (.fn 22 [])) [(.t 54), (.c (.int 19))]), none, 2⟩, ⟨(some 56), (.mksl .u8 1 1 [(.u8 0)] (.t 55) (.t 55)), none, 2⟩, ⟨(some 57), (.fad 2 (.t 13)), none, 2⟩, ⟨none, (.store none (.t 57) (.t 56)), none, 2⟩] []) (.seq (.reg [⟨(some 59), (.eq false .sc (.t 38) (.c (.int 3))), none, 2⟩, ⟨(some 58), (.mov (.t 59)), none, 2⟩] []) (.cond (.t 58) (.reg [⟨(some 60), (.mov (.t 4)), none, 2⟩, ⟨(some 61), (.call (.c (.fn 22 [])) [(.t 60), (.c (.int 52))]), none, 2⟩, ⟨(some 62), (.mksl .u8 1 1 [(.u8 0)] (.t 61) (.t 61)), none, 2⟩, ⟨(some 63), (.fad 19 (.t 13)), none, 2⟩, ⟨none, (.store none (.t 63) (.t 62)), none, 2⟩] []) (.seq (.reg [⟨(some 65), (.eq false .sc (.t 38) (.c (.int 4))), none, 2⟩, ⟨(some 64), (.mov (.t 65)), none, 2⟩] []) (.cond (.t 64) t8_66 (.seq (.reg [⟨(some 82), (.eq false .sc (.t 38) (.c (.int 5))), none, 2⟩, ⟨(some 81), (.mov (.t 82)), none, 2⟩] []) (.cond (.t 81) t8_83 (.seq (.reg [⟨(some 99), (.eq false .sc (.t 38) (.c (.int 6))), none, 2⟩, ⟨(some 98), (.mov (.t 99)), none, 2⟩] []) (.cond (.t 98) (.reg [⟨(some 100), (.mov (.t 4)), none, 2⟩, ⟨(some 101), (.bsl false .int 1 5 [(.int 0)] [(0, (1, (.c (.int (-1))))), (1, (1, (.c (.int 0)))), (2, (1, (.c (.int 255)))), (3, (1, (.c (.int 256)))), (4, (1, (.t 100)))]), none, 2⟩, ⟨(some 102), (.mov (.t 4)), none, 2⟩, ⟨(some 103), (.call (.c (.fn 22 [])) [(.t 102), (.c (.int 5))]), none, 2⟩, ⟨(some 104), (.iadS 1 (.t 101) (.t 103)), none, 2⟩, ⟨(some 105), (.load none (.t 104)), none, 2⟩, ⟨(some 106), (.fad 20 (.t 13)), none, 2⟩, ⟨none, (.store none (.t 106) (.t 105)), none, 2⟩] []) (.seq (.reg [⟨(some 108), (.eq false .sc (.t 38) (.c (.int 7))), none, 2⟩, ⟨(some 107), (.mov (.t 108)), none, 2⟩] []) (.cond (.t 107) (.reg [⟨(some 109), (.mov (.t 4)), none, 2⟩, ⟨(some 110), (.bsl false .int 1 4 [(.int 0)] [(0, (1, (.c (.int (-1))))), (1, (1, (.c (.int 0)))), (2, (1, (.c (.int 9223372036854775807)))), (3, (1, (.t 109)))]), none, 2⟩, ⟨(some 111), (.mov (.t 4)), none, 2⟩, ⟨(some 112), (.call (.c (.fn 22 [])) [(.t 111), (.c (.int 4))]), none, 2⟩, ⟨(some 113), (.iadS 1 (.t 110) (.t 112)), none, 2⟩, ⟨(some 114), (.load none (.t 113)), none, 2⟩, ⟨(some 115), (.fad 21 (.t 13)), none, 2⟩, ⟨none, (.store none (.t 115) (.t 114)), none, 2⟩] []) (.seq (.reg [⟨(some 117), (.eq false .sc (.t 38) (.c (.int 8))), none, 2⟩, ⟨(some 116), (.mov (.t 117)), none, 2⟩] []) (.cond (.t 116) (.reg [⟨(some 118), (.mov (.t 4)), none, 2⟩, ⟨(some 119), (.bsl false .int 1 4 [(.int 0)] [(0, (1, (.c (.int (-1))))), (1, (1, (.c (.int 0)))), (2, (1, (.c (.int 9223372036854775807)))), (3, (1, (.t 118)))]), none, 2⟩, ⟨(some 120), (.mov (.t 4)), none, 2⟩, ⟨(some 121), (.call (.c (.fn 22 [])) [(.t 120), (.c (.int 4))]), none, 2⟩, ⟨(some 122), (.iadS 1 (.t 119) (.t 121)), none, 2⟩, ⟨(some 123), (.load none (.t 122)), none, 2⟩, ⟨(some 124), (.fad 22 (.t 13)), none, 2⟩, ⟨none, (.store none (.t 124) (.t 123)), none, 2⟩] []) .skip)))))))))))))))))))) t8_126)))))
theorem c8_eq : c8 = c8_ := by kernel_rfl

/-- within, where one answer is known. -/
def e22n (v : Int) (K j : Nat) : SpE := ⟨true, fun xs h => match xs with
  | [.int a, .int b] => match Nat.beq b.toNat K with
    | true => .v (some (a = v ∧ b = (K : Int))) (.int (ilit j))
    | false => .v (some (0 < b ∧ b < 2 ^ 62)) (.int (within1 a b))
  | _ => .no⟩
theorem ok22n {v : Int} {K j : Nat} (hK : 0 < K ∧ K < 1000) (hj : within1 v K = ilit j) : SpE.ok Try.prog 22 (e22n v K j) := by
  intro args h
  unfold e22n
  simp only
  split
  · rename_i C A he
    split at he
    · rename_i a b
      have key : ∀ (C' : Option Prop) (A' : AV), (holds C' → 0 < b ∧ b < 2 ^ 62) → (holds C' → A' = .int (within1 a b)) → holds C' → ACalls Try.prog 22 [.int a, .int b] h (fun r h' => r = A' ∧ h' = h) := fun C' A' h1 h2 hC => by
        rw [h2 hC]
        exact ok22 [.int a, .int b] h (h1 hC)
      split at he
      · cases he
        exact key _ _ (fun hC => by obtain ⟨_, rfl⟩ := hC; omega) (fun hC => by obtain ⟨rfl, rfl⟩ := hC; rw [hj])
      · cases he
        exact key _ _ (fun hC => hC) (fun _ => rfl)
    · cases he
  · rename_i C A h1 he; split at he <;> (try split at he) <;> cases he
  · rename_i C h1 he; split at he <;> (try split at he) <;> cases he
  · trivial

def G8 (v : Int) (j : Nat) : G := G0 keep8 [(15, e15), (22, (e22n v 4 j)), (24, e24), (34, e34), (35, e35), (36, e36), (40, e40)]
def K8 (v : Int) (j : Nat) : KT := leafK (G8 v j).sp res8 false 0 (fun a h => a = .bool true ∧ h = [])
theorem g8_keep (v : Int) (j : Nat) : (G8 v j).keep = keep8 := rfl
theorem g8_k0 (v : Int) (j : Nat) : (G8 v j).k0 = 0 := rfl
theorem g8_15 (v : Int) (j : Nat) : sfind (G8 v j).sp 15 = some e15 := rfl
theorem g8_22 (v : Int) (j : Nat) : sfind (G8 v j).sp 22 = some (e22n v 4 j) := rfl
theorem g8_24 (v : Int) (j : Nat) : sfind (G8 v j).sp 24 = some e24 := rfl
theorem g8_34 (v : Int) (j : Nat) : sfind (G8 v j).sp 34 = some e34 := rfl
theorem g8_35 (v : Int) (j : Nat) : sfind (G8 v j).sp 35 = some e35 := rfl
theorem g8_36 (v : Int) (j : Nat) : sfind (G8 v j).sp 36 = some e36 := rfl
theorem g8_40 (v : Int) (j : Nat) : sfind (G8 v j).sp 40 = some e40 := rfl

theorem tail8_ok (z : Nat) (m : Rec) (hn : m.name.length ≤ 1099511627776) : m.name.length ≤ 1099511627776 ∧ fork (m.ok == m.ok) (True ∧ True ∧ 0 ≤ z ∧ AV.bool (m.outW.l == m.outR.l) = AV.bool true ∧ True) (True ∧ True ∧ 0 ≤ z ∧ AV.bool false = AV.bool true ∧ True) := by
  rw [rec_out_eq]
  refine ⟨hn, fork_intro (fun _ => ⟨trivial, trivial, by omega, by simp, trivial⟩) (fun h => by simp at h)⟩
set_option maxHeartbeats 4000000 in
theorem tail8 (v : Int) (j : Nat) (m : Rec) (hn : m.name.length ≤ 1099511627776) (v0 v1 v2 v3 v4 v5 v12 v14 v15 v16 v17 v19 v32 v38 v39 v48 v52 v58 v64 v81 v98 v107 v116 : AV) : run (G8 v j) t8_126 (K8 v j) [] (K8 v j) [(0, v0), (1, v1), (2, v2), (3, v3), (4, v4), (5, v5), (12, v12), (13, .ptr 0 0 0), (14, v14), (15, v15), (16, v16), (17, v17), (19, v19), (32, v32), (38, v38), (39, v39), (48, v48), (52, v52), (58, v58), (64, v64), (81, v81), (98, v98), (107, v107), (116, v116)] [⟨0, .agg m.C, false⟩] := by
  dsimp only [g8_keep, g8_k0, g8_15, g8_22, g8_24, g8_34, g8_35, g8_36, g8_40, K8, t8_126, keep8, res8, e15, e22n, e24, e34, e35, e36, e40, Num.eta, By.eta, recD, Rec.eta, Rec.C, run, runOps, onER, doOp, noOp, ifB, onG, onGd, onB, onL, xfB, lookB, ↓fork_true, ↓fork_false, chkC, evc, vOnly, ev, evBin, evUn, evEq, evConv, evSlice, evApp, appSl, appMs, evCall, sfind, srcS, rdS, nilK, ctakeT0, eq1, eqs, shn, ngt, xv, xvs, xi, look, Go.Abs.put, trim, conj, both, argS, leafK, resv, one, one1, ofC, frzL, frzV, hasMs, hasMsL, hlen, hget, hset, hsnoc, htake, lget, ldrop, ltake, lset, lapp, lput, llen, lrep, cget, csub, cexp, exU8, exU32, exInt, cset, cput, capp, clen, toC, csubT, ctakeT, cdropT, celT, mulz, typed, ab?, ai?, au?, zeros, lay, lenS, offS, fulS, cutS, cutT, bnds, below, belowL, hbelow, sbelow, xfind, fits, eqS, eqH, eqO, loopK, sameS, sameH, SameL, Nat.beq, Nat.ble, Int.reduceToNat, Nat.reduceAdd, Nat.reduceMul, Nat.reduceSub, Int.reduceLT, Int.reduceLE, Int.reduceNeg, UInt64.reduceToNat, UInt32.reduceToNat, UInt8.reduceToNat, G0, GL, ev0, ev1, ev2, ev3, ev4, intD, u32D, u8D, boolD, strD, byD, numD, intsD, By.A, Num.C, sp0, s0f, objOf, peelB, startK, entryK, finB, allX, andE, GK, GKL, GR, onR, rfind, noR, fdShape, elT, allN, endR, retR, failK, rangeP, Nat.blt, Nat.succ, evP, l0D, l1D, l2D, frzI, frzR, ownF, frzC, frzA, frzJ, allFz, nestL]
  have := tail8_ok 1 m hn
  simp only [eq_self, and_true, true_and] at this ⊢
  exact this
set_option maxHeartbeats 4000000 in
theorem tail8_salt (v : Int) (j : Nat) (m : Rec) (hn : m.name.length ≤ 1099511627776) (k : Nat) (hk : k ≤ 1000) (v0 v1 v2 v3 v4 v5 v12 v14 v15 v16 v17 v19 v32 v38 v39 v48 v52 v58 v64 v81 v98 v107 v116 : AV) : run (G8 v j) t8_126 (K8 v j) [] (K8 v j) [(0, v0), (1, v1), (2, v2), (3, v3), (4, v4), (5, v5), (12, v12), (13, .ptr 0 0 0), (14, v14), (15, v15), (16, v16), (17, v17), (19, v19), (32, v32), (38, v38), (39, v39), (48, v48), (52, v52), (58, v58), (64, v64), (81, v81), (98, v98), (107, v107), (116, v116)] [⟨0, .agg [.int m.proto, .str m.name, .ms false 1 0 0 k 1, .u32 m.v.a0, .u32 m.v.a1, .u32 m.v.a2, .u32 m.v.a3, .u32 m.v.a4, .u32 m.v.a5, .u32 m.v.a6, .u32 m.v.a7, .u32 m.key.a0, .u32 m.key.a1, .u32 m.key.a2, .u32 m.key.a3, .u32 m.key.a4, .u32 m.key.a5, .u32 m.key.a6, .u32 m.key.a7, m.sea.A, .int m.toks, .int m.at_, .int m.rev], false⟩, ⟨0, .ab (List.replicate k 0), false⟩] := by
  dsimp only [g8_keep, g8_k0, g8_15, g8_22, g8_24, g8_34, g8_35, g8_36, g8_40, K8, t8_126, keep8, res8, e15, e22n, e24, e34, e35, e36, e40, Num.eta, By.eta, By.A, recD, Rec.eta, Rec.C, run, runOps, onER, doOp, noOp, ifB, onG, onGd, onB, onL, xfB, lookB, ↓fork_true, ↓fork_false, chkC, evc, vOnly, ev, evBin, evUn, evEq, evConv, evSlice, evApp, appSl, appMs, evCall, sfind, srcS, rdS, nilK, ctakeT0, eq1, eqs, shn, ngt, xv, xvs, xi, look, Go.Abs.put, trim, conj, both, argS, leafK, resv, one, one1, ofC, frzL, frzV, hasMs, hasMsL, hlen, hget, hset, hsnoc, htake, lget, ldrop, ltake, lset, lapp, lput, llen, lrep, cget, csub, cexp, exU8, exU32, exInt, cset, cput, capp, clen, toC, csubT, ctakeT, cdropT, celT, mulz, typed, ab?, ai?, au?, zeros, lay, lenS, offS, fulS, cutS, cutT, bnds, below, belowL, hbelow, sbelow, xfind, fits, eqS, eqH, eqO, loopK, sameS, sameH, SameL, Nat.beq, Nat.ble, Int.reduceToNat, Nat.reduceAdd, Nat.reduceMul, Nat.reduceSub, Int.reduceLT, Int.reduceLE, Int.reduceNeg, UInt64.reduceToNat, UInt32.reduceToNat, UInt8.reduceToNat, G0, GL, ev0, ev1, ev2, ev3, ev4, intD, u32D, u8D, boolD, strD, byD, numD, intsD, By.A, Num.C, sp0, s0f, objOf, peelB, startK, entryK, finB, allX, andE, GK, GKL, GR, onR, rfind, noR, fdShape, elT, allN, endR, retR, failK, rangeP, Nat.blt, Nat.succ, evP, l0D, l1D, l2D, frzI, frzR, ownF, frzC, frzA, frzJ, allFz, nestL]
  have := tail8_ok 2 { m with salt := ⟨false, (List.drop 0 (List.replicate k 0)).take k⟩ } hn
  have h1 : 0 + k ≤ (List.replicate k (0 : UInt8)).length := by simp
  simp only [eq_self, and_true, true_and, h1] at this ⊢
  exact this
set_option maxHeartbeats 4000000 in
theorem tail8_sea (v : Int) (j : Nat) (m : Rec) (hn : m.name.length ≤ 1099511627776) (k : Nat) (hk : k ≤ 1000) (v0 v1 v2 v3 v4 v5 v12 v14 v15 v16 v17 v19 v32 v38 v39 v48 v52 v58 v64 v81 v98 v107 v116 : AV) : run (G8 v j) t8_126 (K8 v j) [] (K8 v j) [(0, v0), (1, v1), (2, v2), (3, v3), (4, v4), (5, v5), (12, v12), (13, .ptr 0 0 0), (14, v14), (15, v15), (16, v16), (17, v17), (19, v19), (32, v32), (38, v38), (39, v39), (48, v48), (52, v52), (58, v58), (64, v64), (81, v81), (98, v98), (107, v107), (116, v116)] [⟨0, .agg [.int m.proto, .str m.name, m.salt.A, .u32 m.v.a0, .u32 m.v.a1, .u32 m.v.a2, .u32 m.v.a3, .u32 m.v.a4, .u32 m.v.a5, .u32 m.v.a6, .u32 m.v.a7, .u32 m.key.a0, .u32 m.key.a1, .u32 m.key.a2, .u32 m.key.a3, .u32 m.key.a4, .u32 m.key.a5, .u32 m.key.a6, .u32 m.key.a7, .ms false 1 0 0 k 1, .int m.toks, .int m.at_, .int m.rev], false⟩, ⟨0, .ab (List.replicate k 0), false⟩] := by
  dsimp only [g8_keep, g8_k0, g8_15, g8_22, g8_24, g8_34, g8_35, g8_36, g8_40, K8, t8_126, keep8, res8, e15, e22n, e24, e34, e35, e36, e40, Num.eta, By.eta, By.A, recD, Rec.eta, Rec.C, run, runOps, onER, doOp, noOp, ifB, onG, onGd, onB, onL, xfB, lookB, ↓fork_true, ↓fork_false, chkC, evc, vOnly, ev, evBin, evUn, evEq, evConv, evSlice, evApp, appSl, appMs, evCall, sfind, srcS, rdS, nilK, ctakeT0, eq1, eqs, shn, ngt, xv, xvs, xi, look, Go.Abs.put, trim, conj, both, argS, leafK, resv, one, one1, ofC, frzL, frzV, hasMs, hasMsL, hlen, hget, hset, hsnoc, htake, lget, ldrop, ltake, lset, lapp, lput, llen, lrep, cget, csub, cexp, exU8, exU32, exInt, cset, cput, capp, clen, toC, csubT, ctakeT, cdropT, celT, mulz, typed, ab?, ai?, au?, zeros, lay, lenS, offS, fulS, cutS, cutT, bnds, below, belowL, hbelow, sbelow, xfind, fits, eqS, eqH, eqO, loopK, sameS, sameH, SameL, Nat.beq, Nat.ble, Int.reduceToNat, Nat.reduceAdd, Nat.reduceMul, Nat.reduceSub, Int.reduceLT, Int.reduceLE, Int.reduceNeg, UInt64.reduceToNat, UInt32.reduceToNat, UInt8.reduceToNat, G0, GL, ev0, ev1, ev2, ev3, ev4, intD, u32D, u8D, boolD, strD, byD, numD, intsD, By.A, Num.C, sp0, s0f, objOf, peelB, startK, entryK, finB, allX, andE, GK, GKL, GR, onR, rfind, noR, fdShape, elT, allN, endR, retR, failK, rangeP, Nat.blt, Nat.succ, evP, l0D, l1D, l2D, frzI, frzR, ownF, frzC, frzA, frzJ, allFz, nestL]
  have := tail8_ok 2 { m with sea := ⟨false, (List.drop 0 (List.replicate k 0)).take k⟩ } hn
  have h1 : 0 + k ≤ (List.replicate k (0 : UInt8)).length := by simp
  simp only [eq_self, and_true, true_and, h1] at this ⊢
  exact this
set_option maxHeartbeats 4000000 in
theorem leaf8_66 (v : Int) (j : Nat) (hj : j < 4) (m : Rec) (T R : KT) (X : List (Nat × KT)) (v0 v1 v2 v3 v4 v5 v12 v14 v15 v16 v17 v19 v32 v38 v39 v48 v52 v58 v64 v81 v98 v107 v116 : AV) (hT : ∀ x : Num, T [(0, v0), (1, v1), (2, v2), (3, v3), (4, .int v), (5, v5), (12, v12), (13, .ptr 0 0 0), (14, v14), (15, v15), (16, v16), (17, v17), (19, v19), (32, v32), (38, v38), (39, v39), (48, v48), (52, v52), (58, v58), (64, v64), (81, v81), (98, v98), (107, v107), (116, v116)] [⟨0, .agg { m with v := x }.C, false⟩]) : run (G8 v j) t8_66 T X R [(0, v0), (1, v1), (2, v2), (3, v3), (4, .int v), (5, v5), (12, v12), (13, .ptr 0 0 0), (14, v14), (15, v15), (16, v16), (17, v17), (19, v19), (32, v32), (38, v38), (39, v39), (48, v48), (52, v52), (58, v58), (64, v64), (81, v81), (98, v98), (107, v107), (116, v116)] [⟨0, .agg m.C, false⟩] := by
  have hT0 := hT Num.zero
  have hT1 := hT (Num.from 4294967295)
  have hT2 := hT (Num.from 4294967296)
  have hT3 := hT (Num.of (makeN v [v, v, v]))
  rcases j with _ | _ | _ | _ | j
  all_goals first | omega | skip
  all_goals
    dsimp only [g8_keep, g8_k0, g8_15, g8_22, g8_24, g8_34, g8_35, g8_36, g8_40, t8_66, keep8, e15, e22n, e24, e34, e35, e36, e40, ilit, Num.eta, By.eta, By.A, isD, Ints.A, recD, Rec.eta, Rec.C, run, runOps, onER, doOp, noOp, ifB, onG, onGd, onB, onL, xfB, lookB, ↓fork_true, ↓fork_false, chkC, evc, vOnly, ev, evBin, evUn, evEq, evConv, evSlice, evApp, appSl, appMs, evCall, sfind, srcS, rdS, nilK, ctakeT0, eq1, eqs, shn, ngt, xv, xvs, xi, look, Go.Abs.put, trim, conj, both, argS, leafK, resv, one, one1, ofC, frzL, frzV, hasMs, hasMsL, hlen, hget, hset, hsnoc, htake, lget, ldrop, ltake, lset, lapp, lput, llen, lrep, cget, csub, cexp, exU8, exU32, exInt, cset, cput, capp, clen, toC, csubT, ctakeT, cdropT, celT, mulz, typed, ab?, ai?, au?, zeros, lay, lenS, offS, fulS, cutS, cutT, bnds, below, belowL, hbelow, sbelow, xfind, fits, eqS, eqH, eqO, loopK, sameS, sameH, SameL, Nat.beq, Nat.ble, Int.reduceToNat, Nat.reduceAdd, Nat.reduceMul, Nat.reduceSub, Int.reduceLT, Int.reduceLE, Int.reduceNeg, UInt64.reduceToNat, UInt32.reduceToNat, UInt8.reduceToNat, G0, GL, ev0, ev1, ev2, ev3, ev4, intD, u32D, u8D, boolD, strD, byD, numD, intsD, By.A, Num.C, sp0, s0f, objOf, peelB, startK, entryK, finB, allX, andE, GK, GKL, GR, onR, rfind, noR, fdShape, elT, allN, endR, retR, failK, rangeP, Nat.blt, Nat.succ, evP, l0D, l1D, l2D, frzI, frzR, ownF, frzC, frzA, frzJ, allFz, nestL] at hT0 hT1 hT2 hT3 ⊢
    simp only [true_and, eq_self]
  · exact ⟨by omega, by omega, hT0⟩
  · exact ⟨by omega, by omega, hT1⟩
  · exact ⟨by omega, by omega, hT2⟩
  · exact ⟨by omega, by omega, hT3⟩
set_option maxHeartbeats 4000000 in
theorem leaf8_83 (v : Int) (j : Nat) (hj : j < 4) (m : Rec) (T R : KT) (X : List (Nat × KT)) (v0 v1 v2 v3 v4 v5 v12 v14 v15 v16 v17 v19 v32 v38 v39 v48 v52 v58 v64 v81 v98 v107 v116 : AV) (hT : ∀ x : Num, T [(0, v0), (1, v1), (2, v2), (3, v3), (4, .int v), (5, v5), (12, v12), (13, .ptr 0 0 0), (14, v14), (15, v15), (16, v16), (17, v17), (19, v19), (32, v32), (38, v38), (39, v39), (48, v48), (52, v52), (58, v58), (64, v64), (81, v81), (98, v98), (107, v107), (116, v116)] [⟨0, .agg { m with key := x }.C, false⟩]) : run (G8 v j) t8_83 T X R [(0, v0), (1, v1), (2, v2), (3, v3), (4, .int v), (5, v5), (12, v12), (13, .ptr 0 0 0), (14, v14), (15, v15), (16, v16), (17, v17), (19, v19), (32, v32), (38, v38), (39, v39), (48, v48), (52, v52), (58, v58), (64, v64), (81, v81), (98, v98), (107, v107), (116, v116)] [⟨0, .agg m.C, false⟩] := by
  have hT0 := hT Num.zero
  have hT1 := hT (Num.from 4294967295)
  have hT2 := hT (Num.from 4294967296)
  have hT3 := hT (Num.of (makeN v [v, v, v]))
  rcases j with _ | _ | _ | _ | j
  all_goals first | omega | skip
  all_goals
    dsimp only [g8_keep, g8_k0, g8_15, g8_22, g8_24, g8_34, g8_35, g8_36, g8_40, t8_83, keep8, e15, e22n, e24, e34, e35, e36, e40, ilit, Num.eta, By.eta, By.A, isD, Ints.A, recD, Rec.eta, Rec.C, run, runOps, onER, doOp, noOp, ifB, onG, onGd, onB, onL, xfB, lookB, ↓fork_true, ↓fork_false, chkC, evc, vOnly, ev, evBin, evUn, evEq, evConv, evSlice, evApp, appSl, appMs, evCall, sfind, srcS, rdS, nilK, ctakeT0, eq1, eqs, shn, ngt, xv, xvs, xi, look, Go.Abs.put, trim, conj, both, argS, leafK, resv, one, one1, ofC, frzL, frzV, hasMs, hasMsL, hlen, hget, hset, hsnoc, htake, lget, ldrop, ltake, lset, lapp, lput, llen, lrep, cget, csub, cexp, exU8, exU32, exInt, cset, cput, capp, clen, toC, csubT, ctakeT, cdropT, celT, mulz, typed, ab?, ai?, au?, zeros, lay, lenS, offS, fulS, cutS, cutT, bnds, below, belowL, hbelow, sbelow, xfind, fits, eqS, eqH, eqO, loopK, sameS, sameH, SameL, Nat.beq, Nat.ble, Int.reduceToNat, Nat.reduceAdd, Nat.reduceMul, Nat.reduceSub, Int.reduceLT, Int.reduceLE, Int.reduceNeg, UInt64.reduceToNat, UInt32.reduceToNat, UInt8.reduceToNat, G0, GL, ev0, ev1, ev2, ev3, ev4, intD, u32D, u8D, boolD, strD, byD, numD, intsD, By.A, Num.C, sp0, s0f, objOf, peelB, startK, entryK, finB, allX, andE, GK, GKL, GR, onR, rfind, noR, fdShape, elT, allN, endR, retR, failK, rangeP, Nat.blt, Nat.succ, evP, l0D, l1D, l2D, frzI, frzR, ownF, frzC, frzA, frzJ, allFz, nestL] at hT0 hT1 hT2 hT3 ⊢
    simp only [true_and, eq_self]
  · exact ⟨by omega, by omega, hT0⟩
  · exact ⟨by omega, by omega, hT1⟩
  · exact ⟨by omega, by omega, hT2⟩
  · exact ⟨by omega, by omega, hT3⟩

set_option maxHeartbeats 8000000 in
theorem fn8 (n : Int) (s : List UInt8) (b : By) (which v : Int) (name : List UInt8) : ACalls Try.prog 8 [.int n, .str s, b.A, .int which, .int v, .str name] [] (fun a h => a = .bool true ∧ h = []) := by
  obtain ⟨j, hj, hv⟩ : ∃ j : Nat, j < 4 ∧ within1 v ((4 : Nat) : Int) = ilit j := by
    have h := within1_in (a := v) (b := 4) (by omega)
    exact ⟨(within1 v 4).toNat, by omega, by rw [ilit_eq]; show within1 v 4 = _; omega⟩
  refine run8 (Γ := G8 v j) (own := false) (kn := 0) (.cons ok15 in15 (.cons (ok22n (by omega) hv) in22 (.cons ok24 in24 (.cons ok34 in34 (.cons ok35 in35 (.cons ok36 in36 (.cons ok40 in40 .nil))))))) (Nat.le_of_ble_eq_true rfl) rfl (Nat.le_refl _) ?_
  rw [c8_eq]
  show run (G8 v j) c8_ (K8 v j) [] (K8 v j) (argS 0 _) []
  have dn : ∀ {p : SL}, look p 12 = .bool true → K8 v j p [] := fun {p} h => by
    show leafK _ [.t 12] _ _ _ _ _
    simp only [leafK, resv, h, ownF, frzL, frzV, frzR]
    exact ⟨by first | rfl | trivial, by first | rfl | trivial⟩
  dsimp only [g8_keep, g8_k0, g8_15, g8_22, g8_24, g8_34, g8_35, g8_36, g8_40, c8_, keep8, e15, e22n, e24, e34, e35, e36, e40, Num.eta, By.eta, recD, Rec.eta, Rec.C, run, runOps, onER, doOp, noOp, ifB, onG, onGd, onB, onL, xfB, lookB, ↓fork_true, ↓fork_false, chkC, evc, vOnly, ev, evBin, evUn, evEq, evConv, evSlice, evApp, appSl, appMs, evCall, sfind, srcS, rdS, nilK, ctakeT0, eq1, eqs, shn, ngt, xv, xvs, xi, look, Go.Abs.put, trim, conj, both, argS, leafK, resv, one, one1, ofC, frzL, frzV, hasMs, hasMsL, hlen, hget, hset, hsnoc, htake, lget, ldrop, ltake, lset, lapp, lput, llen, lrep, cget, csub, cexp, exU8, exU32, exInt, cset, cput, capp, clen, toC, csubT, ctakeT, cdropT, celT, mulz, typed, ab?, ai?, au?, zeros, lay, lenS, offS, fulS, cutS, cutT, bnds, below, belowL, hbelow, sbelow, xfind, fits, eqS, eqH, eqO, loopK, sameS, sameH, SameL, Nat.beq, Nat.ble, Int.reduceToNat, Nat.reduceAdd, Nat.reduceMul, Nat.reduceSub, Int.reduceLT, Int.reduceLE, Int.reduceNeg, UInt64.reduceToNat, UInt32.reduceToNat, UInt8.reduceToNat, G0, GL, ev0, ev1, ev2, ev3, ev4, intD, u32D, u8D, boolD, strD, byD, numD, intsD, By.A, Num.C, sp0, s0f, objOf, peelB, startK, entryK, finB, allX, andE, GK, GKL, GR, onR, rfind, noR, fdShape, elT, allN, endR, retR, failK, rangeP, Nat.blt, Nat.succ, evP, l0D, l1D, l2D, frzI, frzR, ownF, frzC, frzA, frzJ, allFz, nestL]
  refine fork_intro (fun h => by cases h) (fun _ => fork_intro (fun _ => dn rfl) (fun h1 => fork_intro (fun _ => dn rfl) (fun h2 => fork_intro (fun _ => dn rfl) (fun h3 => ?_))))
  have h1 := of_decide_eq_false h1
  have h2 := of_decide_eq_false h2
  have h3 := of_decide_eq_false h3
  have hn : (recM n s b).name.length ≤ 1099511627776 := by
    have := nameOK_len ((recM n s b).oks (rec_right n s b).1).2.2.1; omega
  have hn2 : name.length ≤ 1099511627776 := by omega
  have ej : ilit j = (j : Int) := ilit_eq j
  refine ⟨⟨by omega, by omega⟩, by trivial, by omega, ?_⟩
  generalize recM n s b = m at *
  have w6 := within1_in (a := v) (b := 6) (by omega)
  have w5 := within1_in (a := v) (b := 5) (by omega)
  have w19 := within1_in (a := v) (b := 19) (by omega)
  have w52 := within1_in (a := v) (b := 52) (by omega)
  refine fork_intro (fun _ => ?_) (fun _ => ?_)
  · refine ⟨by omega, by omega, by simp, ?_⟩
    exact tail8 v j { m with proto := [[-1, 0, 1, 2, 3, v].getD (within1 v 6).toNat 0].getD 0 0 } hn _ _ _ _ _ _ _ _ _ _ _ _ _ _ _ _ _ _ _ _ _ _ _
  refine fork_intro (fun _ => ?_) (fun _ => ?_)
  · exact tail8 v j { m with name := name } hn2 _ _ _ _ _ _ _ _ _ _ _ _ _ _ _ _ _ _ _ _ _ _ _
  refine fork_intro (fun _ => ?_) (fun _ => ?_)
  · refine ⟨by omega, by omega, ?_⟩
    exact tail8_salt v j m hn (within1 v 19).toNat (by omega) _ _ _ _ _ _ _ _ _ _ _ _ _ _ _ _ _ _ _ _ _ _ _
  refine fork_intro (fun _ => ?_) (fun _ => ?_)
  · refine ⟨by omega, by omega, ?_⟩
    exact tail8_sea v j m hn (within1 v 52).toNat (by omega) _ _ _ _ _ _ _ _ _ _ _ _ _ _ _ _ _ _ _ _ _ _ _
  refine fork_intro (fun _ => ?_) (fun _ => ?_)
  · exact leaf8_66 v j hj m _ _ _ _ _ _ _ (.int 0) _ _ _ _ _ _ _ _ _ _ _ _ _ _ _ _ _ _ (fun x => tail8 v j { m with v := x } hn _ _ _ _ _ _ _ _ _ _ _ _ _ _ _ _ _ _ _ _ _ _ _)
  refine fork_intro (fun _ => ?_) (fun _ => ?_)
  · exact leaf8_83 v j hj m _ _ _ _ _ _ _ (.int 0) _ _ _ _ _ _ _ _ _ _ _ _ _ _ _ _ _ _ (fun x => tail8 v j { m with key := x } hn _ _ _ _ _ _ _ _ _ _ _ _ _ _ _ _ _ _ _ _ _ _ _)
  refine fork_intro (fun _ => ?_) (fun _ => ?_)
  · refine ⟨by omega, by omega, by simp, ?_⟩
    exact tail8 v j { m with toks := [[-1, 0, 255, 256, v].getD (within1 v 5).toNat 0].getD 0 0 } hn _ _ _ _ _ _ _ _ _ _ _ _ _ _ _ _ _ _ _ _ _ _ _
  refine fork_intro (fun _ => ?_) (fun _ => ?_)
  · refine ⟨⟨rfl, by omega⟩, by omega, by simp, ?_⟩
    exact tail8 v j { m with at_ := [[-1, 0, 9223372036854775807, v].getD (ilit j).toNat 0].getD 0 0 } hn _ _ _ _ _ _ _ _ _ _ _ _ _ _ _ _ _ _ _ _ _ _ _
  refine fork_intro (fun _ => ?_) (fun _ => ?_)
  · refine ⟨⟨rfl, by omega⟩, by omega, by simp, ?_⟩
    exact tail8 v j { m with rev := [[-1, 0, 9223372036854775807, v].getD (ilit j).toNat 0].getD 0 0 } hn _ _ _ _ _ _ _ _ _ _ _ _ _ _ _ _ _ _ _ _ _ _ _
  exact tail8 v j m hn _ _ _ _ _ _ _ _ _ _ _ _ _ _ _ _ _ _ _ _ _ _ _
end Go.Abs
