/-
  Own work. Conditions: none. The walk of the law WireRecords.
-/
import Derived.Test.YtmgefdndbcgoiaaWireC
set_option linter.unusedVariables false
set_option linter.unusedSimpArgs false
set_option linter.unnecessarySimpa false
namespace Go.Abs
open Go.Proofs
set_option maxRecDepth 100000

def h0 : Nat → Bool
  | 0 => false
  | _ + 1 => true
def h3 : Nat → Bool
  | 0 => false
  | 1 => false
  | 2 => false
  | 3 => false
  | _ + 4 => true
def fz7 (i : Nat) : List AO → List AO
  | [a, b, c, d] => [a, b, ⟨c.ep, c.c, h0 i⟩, ⟨d.ep, d.c, h3 i⟩]
  | l => l
def L7 (s : SL) (h : List AO) : LI where
  X := Nat
  x0 := 0
  pre p := p ≤ 4
  inv p := ([(23, look s 23), (24, .int (ilit p))], fz7 p h)
  mu p := 4 - p
  ren := false
  fin := some [0, 1, 2, 3, 4]
theorem rec_len {r : Rec} (h : r.ok = true) : 29 ≤ r.outW.l.length ∧ r.outW.l.length ≤ 109 := by
  have hk := r.oks h
  have hn := nameOK_len hk.2.2.1
  have e1 : (atB (Num.from r.at_) 8).length = 8 := atB_len _ _ (by omega)
  have e2 : (atB (Num.from r.rev) 8).length = 8 := atB_len _ _ (by omega)
  rw [rec_bytes h]
  simp only [List.length_cons, List.length_append, be4_len, e1, e2]
  omega
set_option maxHeartbeats 4000000 in
theorem fn7 (n : Int) (s : List UInt8) (b : By) (at_ : Int) (by_ : UInt8) (cut : Int) (raw : By) : ACalls Try.prog 7 [.int n, .str s, b.A, .int at_, .u8 by_, .int cut, raw.A] [] (fun a h => a = .bool true ∧ h = []) := by
  refine run7 (Γ := { sp := [(15, e15), (22, e22), (34, e34), (35, e35), (36, e36), (37, e37), (38, e38), (39, e39)], keep := keep7, k0 := 0, inv := fun i s' h' => L7 s' h' }) (own := false) (kn := 0) (.cons ok15 in15 (.cons ok22 in22 (.cons ok34 in34 (.cons ok35 in35 (.cons ok36 in36 (.cons ok37 in37 (.cons ok38 in38 (.cons ok39 in39 .nil)))))))) (Nat.le_of_ble_eq_true rfl) rfl (Nat.le_refl _) ?_
  dsimp only [c7, keep7, res7, e15, e22, e34, e35, e36, e37, e38, e39, Num.eta, By.eta, recD, Rec.eta, Rec.C, L7, fz7, h0, h3, ilit, run, runOps, onER, doOp, noOp, ifB, onG, onGd, onB, onL, xfB, lookB, ↓fork_true, ↓fork_false, chkC, evc, vOnly, ev, evBin, evUn, evEq, evConv, evSlice, evApp, appSl, appMs, evCall, sfind, srcS, rdS, nilK, ctakeT0, eq1, eqs, shn, ngt, xv, xvs, xi, look, Go.Abs.put, trim, conj, both, argS, leafK, resv, one, one1, ofC, frzL, frzV, hasMs, hasMsL, hlen, hget, hset, hsnoc, htake, lget, ldrop, ltake, lset, lapp, lput, llen, lrep, cget, csub, cexp, exU8, exU32, exInt, cset, cput, capp, clen, toC, csubT, ctakeT, cdropT, celT, mulz, typed, ab?, ai?, au?, zeros, lay, lenS, offS, fulS, cutS, cutT, bnds, below, belowL, hbelow, sbelow, xfind, fits, eqS, eqH, eqO, loopK, sameS, sameH, SameL, Nat.beq, Nat.ble, Int.reduceToNat, Nat.reduceAdd, Nat.reduceMul, Nat.reduceSub, Int.reduceLT, Int.reduceLE, Int.reduceNeg, UInt64.reduceToNat, UInt32.reduceToNat, UInt8.reduceToNat, G0, GL, ev0, ev1, ev2, ev3, ev4, intD, u32D, u8D, boolD, strD, byD, numD, intsD, By.A, Num.C, sp0, s0f, objOf, peelB, startK, entryK, finB, allX, andE, GK, GKL, GR, onR, rfind, noR, fdShape, elT, allN, endR, retR, failK, rangeP, Nat.blt, Nat.succ, evP, l0D, l1D, l2D, frzI, frzR, ownF, frzC, frzA, frzJ, allFz, nestL]
  refine fork_intro (fun h => by cases h) (fun _ => fork_intro (fun _ => ⟨by trivial, by trivial⟩) (fun h1 => fork_intro (fun _ => ⟨by trivial, by trivial⟩) (fun h2 => fork_intro (fun _ => ⟨by trivial, by trivial⟩) (fun h3 => ?_))))
  have h1 := of_decide_eq_false h1
  have h2 := of_decide_eq_false h2
  have h3 := of_decide_eq_false h3
  obtain ⟨r1, r2, r3⟩ := rec_right n s b
  have hn := nameOK_len ((recM n s b).oks r1).2.2.1
  have hlen := rec_len r1
  obtain ⟨d, d1, d2⟩ := readW_back (recM n s b) (recM n s b).outW.nil r1 r2 r3
  have d1 : readW (recM n s b).outW = some d := d1
  have ds : (recM n s b).same d = true := (rec_same_norm _ _).2 d2.symm
  refine ⟨⟨by omega, by omega⟩, by trivial, by omega, by omega, by trivial, ?_⟩
  rw [d1, r1, ← rec_out_eq]
  refine fork_intro (fun h => by cases h) (fun _ => fork_intro (fun h => by cases h) (fun _ => fork_intro (fun h => by simp at h) (fun _ => fork_intro (fun h => by cases h) (fun _ => fork_intro (fun h => by
    have h : (!((recM n s b).same d)) = true := h
    rw [ds] at h; cases h) (fun _ => ?_)))))
  generalize (recM n s b).outW = x at *
  have hat := within1_in (a := at_) (b := (x.l.length : Int)) (by omega)
  generalize within1 at_ (x.l.length : Int) = w at *
  have hl : w64 ((x.l.length : Int) + 1) = (x.l.length : Int) + 1 := w64_in (by omega)
  have hw := within1_in (a := cut) (b := (x.l.length : Int) + 1) (by omega)
  rw [hl]
  obtain ⟨k, hk⟩ : ∃ k : Nat, within1 cut ((x.l.length : Int) + 1) = k := ⟨(within1 cut ((x.l.length : Int) + 1)).toNat, by omega⟩
  rw [hk] at hw ⊢
  have lk : (x.l.take k).length = k := by rw [List.length_take]; omega
  have e3 : x.l.take (x.l.length * x.l.length) = x.l := List.take_of_length_le (Nat.le_mul_of_pos_left _ (by omega))
  simp only [Int.toNat_natCast, lk, e3, List.length_append, List.length_set]
  have ag : ∀ b : By, (readW b).isSome = (readR b).isSome ∧ (orZR (readW b)).same (orZR (readR b)) = true := fun b => ⟨(read_agree b.l b.nil b.nil).1, read_same b⟩
  clear d1
  generalize readW = fW at *
  generalize readR = fR at *
  have rd : ∀ {b : By} {A B K : Prop}, K → fork (!((fW b).isSome == (fR b).isSome)) A (fork (!((orZR (fW b)).same (orZR (fR b)))) B K) := fun {b} _ _ _ h => by
    rw [(ag b).1, (ag b).2]
    exact fork_intro (fun h => by simp at h) (fun _ => fork_intro (fun h => by cases h) (fun _ => h))
  have fl : ∀ {l : List UInt8} {j : Nat}, (List.take j (List.drop 0 l)).length ≤ l.length := fun {l j} => by simp; omega
  have tail : ∀ i : Nat, i ≤ 4 → i ∈ [0, 1, 2, 3, 4] := fun i hi => by
    rcases i with _ | _ | _ | _ | _ | i <;> first | omega | simp
  repeat' (first | exact tail | refine rd ?_ | (refine fork_intro (fun h => ?_) (fun h => ?_)) | (refine And.intro ?_ ?_))
  all_goals first | exact True.intro | omega | exact .inl rfl | (cases h; done) | (refine Nat.le_trans fl ?_; (try simp only [List.length_set, List.length_append, List.length_cons, List.length_nil, lk]); omega) | rfl | (simp only [List.length_cons, List.length_nil]; omega) | skip
  · exact ⟨1, by omega, by omega, by and_intros <;> first | trivial | rfl, by and_intros <;> first | trivial | rfl | exact .inl rfl⟩
  · exact ⟨2, by omega, by omega, by and_intros <;> first | trivial | rfl, by and_intros <;> first | trivial | rfl | exact .inl rfl⟩
  · exact ⟨3, by omega, by omega, by and_intros <;> first | trivial | rfl, by and_intros <;> first | trivial | rfl | exact .inl rfl⟩
  · exact ⟨4, by omega, by omega, by and_intros <;> first | trivial | rfl, by and_intros <;> first | trivial | rfl | exact .inl rfl⟩
end Go.Abs
