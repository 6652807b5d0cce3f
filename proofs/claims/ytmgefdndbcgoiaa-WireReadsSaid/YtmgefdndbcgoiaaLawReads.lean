/-
  Own work. Conditions: none. The walk of the law WireReads.
-/
import Derived.Test.YtmgefdndbcgoiaaWireB
set_option linter.unusedVariables false
set_option linter.unusedSimpArgs false
set_option linter.unnecessarySimpa false
namespace Go.Abs
open Go.Proofs
set_option maxRecDepth 100000

theorem fork_and3 {p q r : Bool} {A B : Prop} (h1 : p = true → q = true → r = true → A) (h2 : B) : fork p (fork q (fork r A B) B) B :=
  fork_intro (fun h => fork_intro (fun k => fork_intro (fun l => h1 h k l) (fun _ => h2)) (fun _ => h2)) (fun _ => h2)
def L4a (x : By) (at_ : Ints) (by_ : By) (cut : Int) (more raw : By) : LI where
  X := Nat × List UInt8
  x0 := (0, x.l)
  pre p := p.1 ≤ 3 ∧ p.2.length = x.l.length
  inv p := ([(4, at_.A), (5, by_.A), (6, .int cut), (7, more.A), (8, raw.A), (19, x.A), (21, .ms false 0 0 0 x.l.length 1), (22, .int p.1)], [⟨0, .ab p.2, false⟩])
  mu p := 3 - p.1
  ren := false
def f0 : Nat → Bool
  | 0 => false
  | _ + 1 => true
def f2 : Nat → Bool
  | 0 => false
  | 1 => false
  | 2 => false
  | _ + 3 => true
def f4 : Nat → Bool
  | 0 => false
  | 1 => false
  | 2 => false
  | 3 => false
  | 4 => false
  | _ + 5 => true
def fz4 (i : Nat) : List AO → List AO
  | [a, b, c] => [⟨a.ep, a.c, f0 i⟩, ⟨b.ep, b.c, f4 i⟩, ⟨c.ep, c.c, f2 i⟩]
  | l => l
def L4b (s : SL) (h : List AO) : LI where
  X := Nat
  x0 := 0
  pre p := p ≤ 5
  inv p := ([(25, look s 25), (26, .int (ilit p))], fz4 p h)
  mu p := 5 - p
  ren := false
  fin := some [0, 1, 2, 3, 4, 5]
set_option maxHeartbeats 4000000 in
theorem fn4 (kind n : Int) (s : List UInt8) (b : By) (at_ : Ints) (by_ : By) (cut : Int) (more raw : By) : ACalls Try.prog 4 [.int kind, .int n, .str s, b.A, at_.A, by_.A, .int cut, more.A, raw.A] [] (fun a h => a = .bool true ∧ h = []) := by
  refine run4 (Γ := { sp := [(15, e15), (16, e16), (18, e18), (20, e20), (21, e21), (22, e22), (23, e23)], keep := keep4, k0 := 0, inv := fun i s' h' => li2 (L4a (makeM kind n s b).outR at_ by_ cut more raw) (L4b s' h') i }) (own := false) (kn := 0) (.cons ok15 in15 (.cons ok16 in16 (.cons ok18 in18 (.cons ok20 in20 (.cons ok21 in21 (.cons ok22 in22 (.cons ok23 in23 .nil))))))) (Nat.le_of_ble_eq_true rfl) rfl (Nat.le_refl _) ?_
  dsimp only [c4, keep4, res4, e15, e16, e18, e20, e21, e22, e23, Num.eta, By.eta, msgD, Msg.eta, Msg.C, li2, L4a, L4b, fz4, f0, f2, f4, ilit, Ints.A, isD, run, runOps, onER, doOp, noOp, ifB, onG, onGd, onB, onL, xfB, lookB, ↓fork_true, ↓fork_false, chkC, evc, vOnly, ev, evBin, evUn, evEq, evConv, evSlice, evApp, appSl, appMs, evCall, sfind, srcS, rdS, nilK, ctakeT0, eq1, eqs, shn, ngt, xv, xvs, xi, look, Go.Abs.put, trim, conj, both, argS, leafK, resv, one, one1, ofC, frzL, frzV, hasMs, hasMsL, hlen, hget, hset, hsnoc, htake, lget, ldrop, ltake, lset, lapp, lput, llen, lrep, cget, csub, cexp, exU8, exU32, exInt, cset, cput, capp, clen, toC, csubT, ctakeT, cdropT, celT, mulz, typed, ab?, ai?, au?, zeros, lay, lenS, offS, fulS, cutS, cutT, bnds, below, belowL, hbelow, sbelow, xfind, fits, eqS, eqH, eqO, loopK, sameS, sameH, SameL, Nat.beq, Nat.ble, Int.reduceToNat, Nat.reduceAdd, Nat.reduceMul, Nat.reduceSub, Int.reduceLT, Int.reduceLE, Int.reduceNeg, UInt64.reduceToNat, UInt32.reduceToNat, UInt8.reduceToNat, G0, GL, ev0, ev1, ev2, ev3, ev4, intD, u32D, u8D, boolD, strD, byD, numD, intsD, By.A, Num.C, sp0, s0f, objOf, peelB, startK, entryK, finB, allX, andE, GK, GKL, GR, onR, rfind, noR, fdShape, elT, allN, endR, retR, failK, rangeP, Nat.blt, Nat.succ, evP, l0D, l1D, l2D, frzI, frzR, ownF, frzC, frzA, frzJ, allFz, nestL]
  refine fork_intro (fun h => by cases h) (fun _ => fork_intro (fun _ => ⟨by trivial, by trivial⟩) (fun h1 => fork_intro (fun _ => ⟨by trivial, by trivial⟩) (fun h2 => fork_intro (fun _ => ⟨by trivial, by trivial⟩) (fun h3 => fork_intro (fun _ => ⟨by trivial, by trivial⟩) (fun h4 => ?_)))))
  have h1 := of_decide_eq_false h1
  have h2 := of_decide_eq_false h2
  have h3 := of_decide_eq_false h3
  have h4 := of_decide_eq_false h4
  refine ⟨⟨by omega, by omega⟩, make_name kind n s b, fork_intro (fun _ => ⟨by trivial, by trivial⟩) (fun h5 => ?_)⟩
  have hx : 3 ≤ (makeM kind n s b).outR.l.length ∧ (makeM kind n s b).outR.l.length ≤ 202 := by
    have hr := make_right kind n s b
    generalize makeM kind n s b = m at *
    rw [← out_eq] at h5 ⊢
    cases hw : m.isW with
    | true =>
      obtain ⟨x, y, e⟩ := outW_l hw
      have hl : (m.outW).l.length ≤ 202 := by
        rw [Msg.outW, hw]
        unfold Msg.isW at hw
        simp only [Bool.and_eq_true, decide_eq_true_eq] at hw
        simp only [List.length_append, List.length_cons, List.length_nil]; omega
      refine ⟨?_, hl⟩
      rw [e]; simp only [List.length_cons]; omega
    | false => rw [Msg.outW, hw] at h5; simp at h5
  generalize (makeM kind n s b).outR = x at *
  refine ⟨by omega, ⟨⟨?_, ?_⟩, by omega, rfl⟩, fun p hp => fork_and3 (fun k1 k2 k3 => ?_) ?_⟩
  · and_intros <;> first | trivial | rfl
  · and_intros <;> first | trivial | rfl | exact .inl rfl
  · have k1 := of_decide_eq_true k1
    have k2 := of_decide_eq_true k2
    have k3 := of_decide_eq_true k3
    have hw := within1_in (a := [at_.l.getD (p.1 : Int).toNat 0].getD 0 0) (b := (x.l.length : Int)) (by omega)
    generalize within1 ([at_.l.getD (p.1 : Int).toNat 0].getD 0 0) (x.l.length : Int) = w at *
    refine ⟨by omega, by simp, by omega, by omega, by omega, by omega, by simp, by omega, by omega, (p.1 + 1, p.2.set (0 + w.toNat) (p.2.getD (0 + w.toNat) 0 + [by_.l.getD (p.1 : Int).toNat 0].getD 0 0)), ⟨by simp only; omega, by rw [List.length_set]; exact hp.2⟩, by simp only; omega, ?_, ?_⟩
    · rw [w64_in (n := (p.1 : Int) + 1) (by omega)]
      and_intros <;> first | trivial | rfl
    · and_intros <;> first | trivial | rfl | exact .inl rfl
  · have hl : w64 ((x.l.length : Int) + 1) = (x.l.length : Int) + 1 := w64_in (by omega)
    have hw := within1_in (a := cut) (b := (x.l.length : Int) + 1) (by omega)
    rw [hl]
    obtain ⟨k, hk⟩ : ∃ k : Nat, within1 cut ((x.l.length : Int) + 1) = k := ⟨(within1 cut ((x.l.length : Int) + 1)).toNat, by omega⟩
    rw [hk] at hw ⊢
    have lk : (x.l.take k).length = k := by rw [List.length_take]; omega
    have e1 : (x.l.take k).take (k * k) = x.l.take k := List.take_of_length_le (by rw [lk]; rcases k with _ | k
                                                                                   · omega
                                                                                   · exact Nat.le_mul_of_pos_left _ (by omega))
    have lm : (x.l.take k ++ more.l).length = k + more.l.length := by rw [List.length_append, lk]
    have e2 : (x.l.take k ++ more.l).take ((k + more.l.length) * (k + more.l.length)) = x.l.take k ++ more.l := List.take_of_length_le (by
      rw [lm]
      rcases Nat.eq_zero_or_pos (k + more.l.length) with e | e
      · rw [e]; omega
      · exact Nat.le_mul_of_pos_left _ e)
    have e3 : x.l.take (x.l.length * x.l.length) = x.l := List.take_of_length_le (Nat.le_mul_of_pos_left _ (by omega))
    simp only [Int.toNat_natCast, lk, e1, lm, e2, e3, List.length_append, List.length_set]
    have rd : ∀ {b : By} {A B K : Prop}, K → fork (!((decW b).isSome == (decR b).isSome)) A (fork (!((orZ (decW b)).same (orZ (decR b)))) B K) := fun {b} _ _ _ h => by
      rw [(dec_agree b).1, dec_same b]
      exact fork_intro (fun h => by simp at h) (fun _ => fork_intro (fun h => by cases h) (fun _ => h))
    have fl : ∀ {l : List UInt8} {j : Nat}, (List.take j (List.drop 0 l)).length ≤ l.length := fun {l j} => by simp; omega
    have tail : ∀ i : Nat, i ≤ 5 → i ∈ [0, 1, 2, 3, 4, 5] := fun i hi => by
      rcases i with _ | _ | _ | _ | _ | _ | i <;> first | omega | simp
    have ld : (List.drop k x.l).length = x.l.length - k := List.length_drop
    repeat' (first | exact tail | refine rd ?_ | (refine fork_intro (fun h => ?_) (fun h => ?_)) | (refine And.intro ?_ ?_))
    all_goals first | trivial | omega | exact .inl rfl | (cases h; done) | (refine Nat.le_trans fl ?_; (try simp only [List.length_set, List.length_append, lk, ld]); omega) | skip
    · exact ⟨1, by omega, by omega, by and_intros <;> first | trivial | rfl, by and_intros <;> first | trivial | rfl | exact .inl rfl⟩
    · exact ⟨2, by omega, by omega, by and_intros <;> first | trivial | rfl, by and_intros <;> first | trivial | rfl | exact .inl rfl⟩
    · exact ⟨3, by omega, by omega, by and_intros <;> first | trivial | rfl, by and_intros <;> first | trivial | rfl | exact .inl rfl⟩
    · exact ⟨4, by omega, by omega, by and_intros <;> first | trivial | rfl, by and_intros <;> first | trivial | rfl | exact .inl rfl⟩
    · exact ⟨5, by omega, by omega, by and_intros <;> first | trivial | rfl, by and_intros <;> first | trivial | rfl | exact .inl rfl⟩
end Go.Abs
