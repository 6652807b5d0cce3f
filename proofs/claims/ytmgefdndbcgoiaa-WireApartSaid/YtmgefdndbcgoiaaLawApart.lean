/-
  Own work. Conditions: none. The walk of the law WireApart.
-/
import Derived.Test.YtmgefdndbcgoiaaWireC
set_option linter.unusedVariables false
set_option linter.unusedSimpArgs false
set_option linter.unnecessarySimpa false
namespace Go.Abs
open Go.Proofs
set_option maxRecDepth 100000

set_option maxHeartbeats 4000000 in
theorem fn13 (kind n m : Int) (s t : List UInt8) (b c : By) : ACalls Try.prog 13 [.int kind, .int n, .int m, .str s, .str t, b.A, c.A] [] (fun a h => a = .bool true ∧ h = []) := by
  refine run13 (Γ := G0 keep13 [(15, e15), (16, e16), (17, e17), (21, e21), (34, e34), (35, e35), (38, e38)]) (own := false) (kn := 0) (.cons ok15 in15 (.cons ok16 in16 (.cons ok17 in17 (.cons ok21 in21 (.cons ok34 in34 (.cons ok35 in35 (.cons ok38 in38 .nil))))))) (Nat.le_of_ble_eq_true rfl) rfl (Nat.le_refl _) ?_
  dsimp only [c13, keep13, res13, e15, e16, e17, e21, e34, e35, e38, Num.eta, By.eta, msgD, Msg.eta, Msg.C, recD, Rec.eta, Rec.C, run, runOps, onER, doOp, noOp, ifB, onG, onGd, onB, onL, xfB, lookB, ↓fork_true, ↓fork_false, chkC, evc, vOnly, ev, evBin, evUn, evEq, evConv, evSlice, evApp, appSl, appMs, evCall, sfind, srcS, rdS, nilK, ctakeT0, eq1, eqs, shn, ngt, xv, xvs, xi, look, Go.Abs.put, trim, conj, both, argS, leafK, resv, one, one1, ofC, frzL, frzV, hasMs, hasMsL, hlen, hget, hset, hsnoc, htake, lget, ldrop, ltake, lset, lapp, lput, llen, lrep, cget, csub, cexp, exU8, exU32, exInt, cset, cput, capp, clen, toC, csubT, ctakeT, cdropT, celT, mulz, typed, ab?, ai?, au?, zeros, lay, lenS, offS, fulS, cutS, cutT, bnds, below, belowL, hbelow, sbelow, xfind, fits, eqS, eqH, eqO, loopK, sameS, sameH, SameL, Nat.beq, Nat.ble, Int.reduceToNat, Nat.reduceAdd, Nat.reduceMul, Nat.reduceSub, Int.reduceLT, Int.reduceLE, Int.reduceNeg, UInt64.reduceToNat, UInt32.reduceToNat, UInt8.reduceToNat, G0, GL, ev0, ev1, ev2, ev3, ev4, intD, u32D, u8D, boolD, strD, byD, numD, intsD, By.A, Num.C, sp0, s0f, objOf, peelB, startK, entryK, finB, allX, andE, GK, GKL, GR, onR, rfind, noR, fdShape, elT, allN, endR, retR, failK, rangeP, Nat.blt, Nat.succ, evP, l0D, l1D, l2D, frzI, frzR, ownF, frzC, frzA, frzJ, allFz, nestL]
  refine fork_intro (fun h => by cases h) (fun _ => fork_intro (fun _ => ⟨by trivial, by trivial⟩) (fun h1 => fork_intro (fun _ => ⟨by trivial, by trivial⟩) (fun h2 => fork_intro (fun _ => ⟨by trivial, by trivial⟩) (fun h3 => fork_intro (fun _ => ⟨by trivial, by trivial⟩) (fun h4 => ?_)))))
  have h1 := of_decide_eq_false h1
  have h2 := of_decide_eq_false h2
  have h3 := of_decide_eq_false h3
  have h4 := of_decide_eq_false h4
  have hm := out_inj (make_isW kind n s b) (make_isW kind m t c) (make_chan kind n s b) (make_chan kind m t c)
  obtain ⟨r1, r2⟩ := rec_right n s b
  obtain ⟨q1, q2⟩ := rec_right m t c
  have hr := rec_inj r1 q1 r2 q2
  rw [hm, hr]
  have ok : AV.bool ((recM n s b).same (recM m t c) == (recM n s b).same (recM m t c)) = AV.bool true := by simp
  rw [ok]
  refine ⟨⟨by omega, by omega⟩, ⟨by omega, by omega⟩, by trivial, by trivial, ⟨by omega, by omega⟩, ⟨by omega, by omega⟩, by trivial, by trivial, ?_⟩
  have dn : True ∧ True ∧ 0 ≤ 4 := ⟨trivial, trivial, by omega⟩
  refine fork_intro (fun _ => ⟨by trivial, by trivial, by omega, by trivial, by trivial⟩) (fun _ => fork_intro (fun _ => ⟨by trivial, by trivial, by omega, by trivial, by trivial⟩) (fun _ => fork_intro (fun _ => ⟨by trivial, by trivial, by omega, by trivial, by trivial⟩) (fun h => by simp at h)))
end Go.Abs
