/-
  Own work. Conditions: none. The walk of the law WireLong.
-/
import Derived.Test.YtmgefdndbcgoiaaWireC
set_option linter.unusedVariables false
set_option linter.unusedSimpArgs false
set_option linter.unnecessarySimpa false
namespace Go.Abs
open Go.Proofs
set_option maxRecDepth 100000

def k12 (size : Int) : Nat := (w64 (9000 + within1 size 4000)).toNat
theorem k12_eq (size : Int) : w64 (9000 + within1 size 4000) = (k12 size : Int) ∧ 9000 ≤ k12 size ∧ k12 size ≤ 13000 := by
  have h := within1_in (a := size) (b := 4000) (by omega)
  unfold k12
  rw [w64_in (by omega)]; omega
def L12a (n size : Int) (h : List AO) : LI where
  X := Nat × List UInt8
  x0 := (0, List.replicate (k12 size) 0)
  pre p := p.1 ≤ k12 size ∧ p.2.length = k12 size
  inv p := ([(0, .int n), (5, .ptr 0 0 0), (6, .ptr 1 0 0), (7, .int (k12 size)), (8, .ms false 2 0 0 (k12 size) 1), (9, .int p.1)], [⟨0, Sw.new.A, false⟩, ⟨0, Sw.new.A, false⟩, ⟨0, .ab p.2, false⟩])
  mu p := k12 size - p.1
  ren := false
def h12 : List AO → AV
  | [_, _, ⟨_, c, _⟩] => c
  | _ => .any
def L12b (n size : Int) (h : List AO) : LI where
  X := Nat × Sw × Sw
  x0 := (1, Sw.new, Sw.new)
  pre p := 1 ≤ p.1 ∧ p.1 ≤ 20 ∧ SwR p.2.1 p.2.2 ∧ p.2.1.b.l.length ≤ 13000 * p.1 ∧ p.2.2.b.l.length ≤ 13000 * p.1
  inv p := ([(0, .int n), (5, .ptr 0 0 0), (6, .ptr 1 0 0), (8, .ms false 2 0 0 (k12 size) 1), (10, .int p.1)], [⟨0, p.2.1.A, false⟩, ⟨0, p.2.2.A, false⟩, ⟨0, h12 h, true⟩])
  mu p := 20 - p.1
  ren := false
  peel := true
set_option maxHeartbeats 4000000 in
theorem fn12 (n size : Int) : ACalls Try.prog 12 [.int n, .int size] [] (fun a h => a = .bool true ∧ h = []) := by
  refine run12 (Γ := { sp := [(15, e15), (21, e21), (22, e22), (26, eNew), (27, eNew), (28, e28), (29, e29), (30, eNextW decW), (31, eNextR decR), (32, eBad), (33, eBad)], keep := keep12, k0 := 0, inv := fun i s' h' => match Nat.beq i 0 with | true => L12a n size h' | false => L12b n size h' }) (own := false) (kn := 0) (.cons ok15 in15 (.cons ok21 in21 (.cons ok22 in22 (.cons (okNew fn26) in26 (.cons (okNew fn27) in27 (.cons ok28 in28 (.cons ok29 in29 (.cons (ok30 ok20) in30 (.cons (ok31 ok23) in31 (.cons ok32 in32 (.cons ok33 in33 .nil))))))))))) (Nat.le_of_ble_eq_true rfl) rfl (Nat.le_refl _) ?_
  dsimp only [c12, h12, keep12, res12, e15, e21, e22, eNew, e28, e29, eNextW, eNextR, eBad, L12a, L12b, Sw.new, Num.eta, By.eta, msgD, Msg.eta, Msg.C, swD, Sw.eta, Sw.A, run, runOps, onER, doOp, noOp, ifB, onG, onGd, onB, onL, xfB, lookB, ↓fork_true, ↓fork_false, chkC, evc, vOnly, ev, evBin, evUn, evEq, evConv, evSlice, evApp, appSl, appMs, evCall, sfind, srcS, rdS, nilK, ctakeT0, eq1, eqs, shn, ngt, xv, xvs, xi, look, Go.Abs.put, trim, conj, both, argS, leafK, resv, one, one1, ofC, frzL, frzV, hasMs, hasMsL, hlen, hget, hset, hsnoc, htake, lget, ldrop, ltake, lset, lapp, lput, llen, lrep, cget, csub, cexp, exU8, exU32, exInt, cset, cput, capp, clen, toC, csubT, ctakeT, cdropT, celT, mulz, typed, ab?, ai?, au?, zeros, lay, lenS, offS, fulS, cutS, cutT, bnds, below, belowL, hbelow, sbelow, xfind, fits, eqS, eqH, eqO, loopK, sameS, sameH, SameL, Nat.beq, Nat.ble, Int.reduceToNat, Nat.reduceAdd, Nat.reduceMul, Nat.reduceSub, Int.reduceLT, Int.reduceLE, Int.reduceNeg, UInt64.reduceToNat, UInt32.reduceToNat, UInt8.reduceToNat, G0, GL, ev0, ev1, ev2, ev3, ev4, intD, u32D, u8D, boolD, strD, byD, numD, intsD, By.A, Num.C, sp0, s0f, objOf, peelB, startK, entryK, finB, allX, andE, GK, GKL, GR, onR, rfind, noR, fdShape, elT, allN, endR, retR, failK, rangeP, Nat.blt, Nat.succ, evP, l0D, l1D, l2D, frzI, frzR, ownF, frzC, frzA, frzJ, allFz, nestL]
  obtain ⟨hk, k1, k2⟩ := k12_eq size
  simp only [hk, Int.toNat_natCast]
  have n1 := within1_in (a := n) (b := 8) (by omega)
  have w9 : w64 (9 + within1 n 8) = 9 + within1 n 8 := w64_in (by omega)
  simp only [w9]
  refine fork_intro (fun h => by cases h) (fun _ => ⟨by omega, by omega, ⟨⟨?_, ?_⟩, by omega, by simp⟩, fun p hp => fork_intro (fun h => ?_) (fun h => ?_)⟩)
  · and_intros <;> first | trivial | rfl
  · and_intros <;> first | trivial | rfl | exact .inl rfl
  · have h := of_decide_eq_true h
    have hm := Int.tmod_lt_of_pos (p.1 : Int) (show (0 : Int) < 3 by omega)
    have hm0 := Int.tmod_nonneg 3 (show (0 : Int) ≤ (p.1 : Int) by omega)
    refine ⟨by omega, by omega, by simp, by omega, by omega, (p.1 + 1, p.2.set (0 + p.1) ([[0, 1, 7].getD ((p.1 : Int).tmod 3).toNat 0].getD 0 0)), ⟨by simp only; omega, by rw [List.length_set]; exact hp.2⟩, by simp only; omega, ?_, ?_⟩
    · rw [w64_in (n := (p.1 : Int) + 1) (by omega)]
      and_intros <;> first | trivial | rfl
    · and_intros <;> first | trivial | rfl | exact .inl rfl
  · have lT : (List.take (k12 size) (List.drop 0 p.2)).length = k12 size := by rw [List.length_take, List.drop_zero]; omega
    have hS : SwR ⟨⟨true, []⟩, 0, false⟩ ⟨⟨true, []⟩, 0, false⟩ := SwR.new
    have hW := hS.wrote (b := ⟨false, List.take (k12 size) (List.drop 0 p.2)⟩) (b' := ⟨false, List.take (k12 size) (List.drop 0 p.2)⟩) rfl
    have lW := wrote_len ⟨⟨true, []⟩, 0, false⟩ ⟨false, List.take (k12 size) (List.drop 0 p.2)⟩
    have lR := wroteR_len ⟨⟨true, []⟩, 0, false⟩ ⟨false, List.take (k12 size) (List.drop 0 p.2)⟩
    have lz : ([] : List UInt8).length = 0 := rfl
    refine ⟨⟨by omega, fork_intro (fun _ => ?_) (fun h => by have h := of_decide_eq_false h; omega)⟩, fun q hq => ?_⟩
    · refine ⟨⟨by omega, by rw [lT]; simp; omega⟩, ⟨by omega, by rw [lT]; simp; omega⟩, hS.fork_o (hW.fork_b ?_)⟩
      refine ⟨(1, _, _), ⟨by simp, by simp, hW, Nat.le_trans lW (by rw [lT]; simp only [List.length_nil]; omega), Nat.le_trans lR (by rw [lT]; simp only [List.length_nil]; omega)⟩, ?_, ?_⟩
      · and_intros <;> first | trivial | rfl
      · and_intros <;> first | trivial | rfl | exact .inl rfl
    · obtain ⟨q1, q2, q3, q4, q5⟩ := hq
      have hW := q3.wrote (b := ⟨false, List.take (k12 size) (List.drop 0 p.2)⟩) (b' := ⟨false, List.take (k12 size) (List.drop 0 p.2)⟩) rfl
      have lW := wrote_len q.2.1 ⟨false, List.take (k12 size) (List.drop 0 p.2)⟩
      have lR := wroteR_len q.2.2 ⟨false, List.take (k12 size) (List.drop 0 p.2)⟩
      refine ⟨by omega, fork_intro (fun h => ?_) (fun h => ?_)⟩
      · have h := of_decide_eq_true h
        refine ⟨⟨by omega, by rw [lT]; omega⟩, ⟨by omega, by rw [lT]; omega⟩, q3.fork_o (hW.fork_b ?_)⟩
        refine ⟨(q.1 + 1, _, _), ⟨by simp, by simp only; omega, hW, Nat.le_trans lW (by rw [lT]; simp only; omega), Nat.le_trans lR (by rw [lT]; simp only; omega)⟩, by simp only; omega, ?_, ?_⟩
        · rw [w64_in (n := (q.1 : Int) + 1) (by omega)]
          and_intros <;> first | trivial | rfl
        · and_intros <;> first | trivial | rfl | exact .inl rfl
      · refine ⟨by omega, by trivial, by omega, by trivial, q3.fork_e (fun _ => ⟨by trivial, by trivial, by omega, ?_, by trivial⟩)⟩
        rw [q3.same]
end Go.Abs
