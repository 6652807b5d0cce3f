/-
  Own work. Conditions: none. The walk of the law WireBack.
-/
import Derived.Test.YtmgefdndbcgoiaaWireB
set_option linter.unusedVariables false
set_option linter.unusedSimpArgs false
set_option linter.unnecessarySimpa false
namespace Go.Abs
open Go.Proofs
set_option maxRecDepth 100000

set_option maxHeartbeats 4000000 in
theorem fn3 (kind n : Int) (s : List UInt8) (b : By) : ACalls Try.prog 3 [.int kind, .int n, .str s, b.A] [] (fun a h => a = .bool true ∧ h = []) := by
  refine run3 (Γ := G0 keep3 [(15, e15), (16, e16), (17, e17), (18, e18), (19, e19), (20, e20), (21, e21)]) (own := false) (kn := 0) (.cons ok15 in15 (.cons ok16 in16 (.cons ok17 in17 (.cons ok18 in18 (.cons ok19 in19 (.cons ok20 in20 (.cons ok21 in21 .nil))))))) (Nat.le_of_ble_eq_true rfl) rfl (Nat.le_refl _) ?_
  dsimp only [c3, keep3, res3, e15, e16, e17, e18, e19, e20, e21, Num.eta, By.eta, msgD, Msg.eta, Msg.C, run, runOps, onER, doOp, noOp, ifB, onG, onGd, onB, onL, xfB, lookB, ↓fork_true, ↓fork_false, chkC, evc, vOnly, ev, evBin, evUn, evEq, evConv, evSlice, evApp, appSl, appMs, evCall, sfind, srcS, rdS, nilK, ctakeT0, eq1, eqs, shn, ngt, xv, xvs, xi, look, Go.Abs.put, trim, conj, both, argS, leafK, resv, one, one1, ofC, frzL, frzV, hasMs, hasMsL, hlen, hget, hset, hsnoc, htake, lget, ldrop, ltake, lset, lapp, lput, llen, lrep, cget, csub, cexp, exU8, exU32, exInt, cset, cput, capp, clen, toC, csubT, ctakeT, cdropT, celT, mulz, typed, ab?, ai?, au?, zeros, lay, lenS, offS, fulS, cutS, cutT, bnds, below, belowL, hbelow, sbelow, xfind, fits, eqS, eqH, eqO, loopK, sameS, sameH, SameL, Nat.beq, Nat.ble, Int.reduceToNat, Nat.reduceAdd, Nat.reduceMul, Nat.reduceSub, Int.reduceLT, Int.reduceLE, Int.reduceNeg, UInt64.reduceToNat, UInt32.reduceToNat, UInt8.reduceToNat, G0, GL, ev0, ev1, ev2, ev3, ev4, intD, u32D, u8D, boolD, strD, byD, numD, intsD, By.A, Num.C, sp0, s0f, objOf, peelB, startK, entryK, finB, allX, andE, GK, GKL, GR, onR, rfind, noR, fdShape, elT, allN, endR, retR, failK, rangeP, Nat.blt, Nat.succ, evP, l0D, l1D, l2D, frzI, frzR, ownF]
  have ok : ∀ {x : Bool}, x = true → AV.bool x = AV.bool true := fun h => by rw [h]
  refine fork_intro (fun h => by cases h) (fun _ => fork_intro (fun _ => ⟨by trivial, by trivial⟩) (fun h1 => fork_intro (fun _ => ⟨by trivial, by trivial⟩) (fun h2 => ?_)))
  have h1 := of_decide_eq_false h1
  have h2 := of_decide_eq_false h2
  have hr := make_right kind n s b
  have hc := make_chan kind n s b
  have hn := make_name kind n s b
  refine ⟨⟨by omega, by omega⟩, by trivial, hn, ?_⟩
  generalize makeM kind n s b = m at *
  rw [hr, ← is_eq, ← out_eq]
  refine fork_intro (fun h => by cases h) (fun _ => fork_intro (fun h => ?_) (fun _ => fork_intro (fun h => ?_) (fun _ => fork_intro (fun h => ?_) (fun h => ?_))))
  · simp at h
  · simp at h
  · have e : m.outW = ⟨true, []⟩ := by rw [Msg.outW, not_t h]
    rw [e]
    exact ⟨by trivial, by trivial, by omega, ok (by rfl), by trivial⟩
  · have h : m.isW = true := not_f h
    obtain ⟨d, e1, e2⟩ := decW_back m m.outW.nil h hc
    have e1 : decW m.outW = some d := e1
    rw [e1]
    have hl : m.outW.l.length ≤ 1099511627776 := by
      rw [Msg.outW, h]
      unfold Msg.isW at h
      simp only [Bool.and_eq_true, decide_eq_true_eq] at h
      simp only [List.length_append, List.length_cons, List.length_nil]; omega
    refine ⟨hl, by trivial, fork_intro (fun _ => ⟨by trivial, by trivial, by omega, ok ?_, by trivial⟩) (fun h => by cases h)⟩
    exact (same_norm _ _).2 e2.symm
end Go.Abs
