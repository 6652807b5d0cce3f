/-
  Own work. Conditions: none. The walk of the law WireSizes.
-/
import Derived.Test.YtmgefdndbcgoiaaWireC
set_option linter.unusedVariables false
set_option linter.unusedSimpArgs false
set_option linter.unnecessarySimpa false
namespace Go.Abs
open Go.Proofs
set_option maxRecDepth 100000

/-- Fields by rising numbers, each of some bytes. -/
def SortedF (last : Nat) : List (Nat × List UInt8) → Prop
  | [] => True
  | f :: r => last < f.1 ∧ f.1 ≤ 11 ∧ 0 < f.2.length ∧ f.2.length < 256 ∧ SortedF f.1 r
theorem sorted_snoc {g : Nat × List UInt8} {n : Nat} (h2 : n < g.1) (h3 : g.1 ≤ 11) (h4 : 0 < g.2.length) (h5 : g.2.length < 256) : ∀ (a : List (Nat × List UInt8)) (k : Nat), SortedF k a → (∀ f ∈ a, f.1 ≤ n) → k ≤ n → SortedF k (a ++ [g])
  | [], k, _, _, hk => ⟨by omega, h3, h4, h5, trivial⟩
  | f :: r, k, h, ha, hk => by
    obtain ⟨q1, q2, q3, q4, q5⟩ := h
    exact ⟨q1, q2, q3, q4, sorted_snoc h2 h3 h4 h5 r f.1 q5 (fun x hx => ha x (by simp [hx])) (ha f (by simp))⟩
theorem flds_sorted (m : Msg) (h : m.goodTo 11 = true) : ∀ n, n ≤ 11 → SortedF 0 (m.flds n) ∧ ∀ f ∈ m.flds n, f.1 ≤ n
  | 0, _ => ⟨trivial, fun f hf => by simp [Msg.flds] at hf⟩
  | n + 1, hn => by
    obtain ⟨h1, h2⟩ := flds_sorted m h n (by omega)
    rw [flds_succ]
    cases he : m.ne n with
    | false => simp only [List.append_nil]; exact ⟨h1, fun f hf => by have := h2 f hf; omega⟩
    | true =>
      have hl := m.fd_le h n (by omega)
      have h0 : 0 < (m.fd n).b.l.length := by have := of_decide_eq_true (show decide (0 < ((m.fd n).b.l.length : Int)) = true from he); omega
      refine ⟨sorted_snoc (n := n) (by simp) (by simp only; omega) h0 (by simp only; omega) _ _ h1 h2 (by omega), fun f hf => ?_⟩
      rcases List.mem_append.1 hf with hf | hf
      · have := h2 f hf; omega
      · simp at hf; subst hf; simp
def L9 (x : By) : LI where
  X := List (Nat × List UInt8) × Nat
  x0 := ([], 0)
  pre p := SortedF p.2 p.1 ∧ p.2 ≤ 11 ∧ ∃ q, x.l = q ++ fieldsB p.1 ∧ 3 ≤ q.length
  inv p := ([(10, x.A), (12, .int (x.l.length - (fieldsB p.1).length)), (13, .int p.2)], [])
  mu p := p.1.length
  ren := false
  peel := false
set_option maxHeartbeats 4000000 in
theorem fn9 (kind n : Int) (s : List UInt8) (b : By) : ACalls Try.prog 9 [.int kind, .int n, .str s, b.A] [] (fun a h => a = .bool true ∧ h = []) := by
  refine run9 (Γ := GL keep9 [(15, e15), (16, e16), (17, e17)] fun _ => { L9 (makeM kind n s b).outW with x0 := ((makeM kind n s b).flds 11, 0) }) (own := false) (kn := 0) (.cons ok15 in15 (.cons ok16 in16 (.cons ok17 in17 .nil))) (Nat.le_of_ble_eq_true rfl) rfl (Nat.le_refl _) ?_
  dsimp only [c9, keep9, res9, e15, e16, e17, Num.eta, By.eta, msgD, Msg.eta, Msg.C, L9, run, runOps, onER, doOp, noOp, ifB, onG, onGd, onB, onL, xfB, lookB, ↓fork_true, ↓fork_false, chkC, evc, vOnly, ev, evBin, evUn, evEq, evConv, evSlice, evApp, appSl, appMs, evCall, sfind, srcS, rdS, nilK, ctakeT0, eq1, eqs, shn, ngt, xv, xvs, xi, look, Go.Abs.put, trim, conj, both, argS, leafK, resv, one, one1, ofC, frzL, frzV, hasMs, hasMsL, hlen, hget, hset, hsnoc, htake, lget, ldrop, ltake, lset, lapp, lput, llen, lrep, cget, csub, cexp, exU8, exU32, exInt, cset, cput, capp, clen, toC, csubT, ctakeT, cdropT, celT, mulz, typed, ab?, ai?, au?, zeros, lay, lenS, offS, fulS, cutS, cutT, bnds, below, belowL, hbelow, sbelow, xfind, fits, eqS, eqH, eqO, loopK, sameS, sameH, SameL, Nat.beq, Nat.ble, Int.reduceToNat, Nat.reduceAdd, Nat.reduceMul, Nat.reduceSub, Int.reduceLT, Int.reduceLE, Int.reduceNeg, UInt64.reduceToNat, UInt32.reduceToNat, UInt8.reduceToNat, G0, GL, ev0, ev1, ev2, ev3, ev4, intD, u32D, u8D, boolD, strD, byD, numD, intsD, By.A, Num.C, sp0, s0f, objOf, peelB, startK, entryK, finB, allX, andE, GK, GKL, GR, onR, rfind, noR, fdShape, elT, allN, endR, retR, failK, rangeP, Nat.blt, Nat.succ, evP, l0D, l1D, l2D, frzI, frzR, ownF, frzC, frzA, frzJ, allFz, nestL]
  refine fork_intro (fun h => by cases h) (fun _ => fork_intro (fun _ => ⟨by trivial, by trivial⟩) (fun h1 => fork_intro (fun _ => ⟨by trivial, by trivial⟩) (fun h2 => ?_)))
  have h1 := of_decide_eq_false h1
  have h2 := of_decide_eq_false h2
  have hw := make_isW kind n s b
  have hsm := make_small kind n s b
  have hr := rights (make_right kind n s b)
  have hg : (makeM kind n s b).goodTo 11 = true := by
    have := make_right kind n s b
    unfold Msg.rightW at this
    simp only [Bool.and_eq_true] at this
    exact this.2.2
  have hso := (flds_sorted _ hg 11 (Nat.le_refl _)).1
  generalize makeM kind n s b = m at *
  have ex : m.outW.l = UInt8.ofInt (((m.encW 11).length : Int) / 2 ^ 8) :: UInt8.ofInt ((m.encW 11).length : Int) :: UInt8.ofInt m.kind :: fieldsB (m.flds 11) := by
    rw [Msg.outW, hw]
    simp only
    rw [encW_flds m 11 (by omega)]
    rfl
  have el : (m.encW 11).length = 1 + (fieldsB (m.flds 11)).length := by rw [encW_flds m 11 (by omega), List.length_cons]; omega
  rw [hw]
  generalize (m.encW 11).length = E at *
  have hL : m.outW.l.length = E + 2 := by rw [ex]; simp only [List.length_cons]; omega
  have g0 : m.outW.l.getD 0 0 = UInt8.ofInt ((E : Int) / 2 ^ 8) := by rw [ex]; rfl
  have g1 : m.outW.l.getD 1 0 = UInt8.ofInt (E : Int) := by rw [ex]; rfl
  have g2 : m.outW.l.getD 2 0 = UInt8.ofInt m.kind := by rw [ex]; rfl
  have hx3 : ∃ q, m.outW.l = q ++ fieldsB (m.flds 11) ∧ 3 ≤ q.length := ⟨[UInt8.ofInt ((E : Int) / 2 ^ 8), UInt8.ofInt (E : Int), UInt8.ofInt m.kind], ex, Nat.le_refl _⟩
  rw [g0, g1, g2]
  generalize m.outW = x at *
  have b0 := u8_ofInt ((E : Int) / 2 ^ 8)
  have b1 := u8_ofInt (E : Int)
  have b2 := u8_ofInt m.kind
  have w2 : w64 ((x.l.length : Int) - 2) = E := by rw [w64_in (by omega)]; omega
  have w3 : w64 (w64 (((UInt8.ofInt ((E : Int) / 2 ^ 8)).toNat : Int) * 2 ^ min 8 64) + ((UInt8.ofInt (E : Int)).toNat : Int)) = E := by
    rw [show min 8 64 = 8 from rfl, w64_in (n := ((UInt8.ofInt ((E : Int) / 2 ^ 8)).toNat : Int) * 2 ^ 8) (by omega), w64_in (by omega)]; omega
  refine ⟨⟨by omega, by omega⟩, by trivial, fork_intro (fun h => by cases h) (fun _ => fork_intro (fun h => ?_) (fun _ => ?_))⟩
  · have h := of_decide_eq_true h; omega
  refine ⟨by omega, by simp, by omega, by simp, fork_intro (fun h => ?_) (fun _ => fork_intro (fun h => ?_) (fun _ => ⟨by omega, by simp, fork_intro (fun h => ?_) (fun _ => ⟨⟨⟨?_, ?_⟩, hso, by omega, hx3⟩, fun p hp => ?_⟩)⟩))⟩
  · exfalso
    rw [w2, show [UInt8.ofInt ((E : Int) / 2 ^ 8)].getD 0 0 = UInt8.ofInt ((E : Int) / 2 ^ 8) from rfl, show [UInt8.ofInt (E : Int)].getD 0 0 = UInt8.ofInt (E : Int) from rfl, w3] at h
    simp at h
  · rw [w2] at h; have h := of_decide_eq_true h; omega
  · exfalso
    rw [show [UInt8.ofInt m.kind].getD 0 0 = UInt8.ofInt m.kind from rfl, b2, show m.kind % 256 = m.kind by omega] at h
    simp at h
  · rw [show (x.l.length : Int) - (fieldsB (m.flds 11)).length = 3 by omega]
    and_intros <;> first | trivial | rfl
  · and_intros <;> first | trivial | rfl
  · obtain ⟨rest, last⟩ := p
    obtain ⟨k1, k2, q, k3, k4⟩ := hp
    simp only at k1 k2 k3 k4 ⊢
    have hql : x.l.length = q.length + (fieldsB rest).length := by rw [k3, List.length_append]
    have hA : (x.l.length : Int) - ((fieldsB rest).length : Int) = (q.length : Int) := by omega
    rw [hA]
    cases rest with
    | nil =>
      refine fork_intro (fun h => ?_) (fun _ => ?_)
      · have h := of_decide_eq_true h; simp only [fieldsB, List.length_nil] at hql; omega
      · refine ⟨?_, by trivial⟩
        have : (q.length : Int) = x.l.length := by simp only [fieldsB, List.length_nil] at hql; omega
        rw [this]; simp
    | cons f r =>
      obtain ⟨s1, s2, s3, s4, s5⟩ := k1
      have hfl : (fieldsB (f :: r)).length = 2 + f.2.length + (fieldsB r).length := by simp only [fieldsB, List.length_cons, List.length_append]; omega
      have gA : x.l.getD q.length 0 = UInt8.ofInt (f.1 : Int) := by rw [k3]; simp [fieldsB, List.getD_eq_getElem?_getD]
      have gB : x.l.getD (q.length + 1) 0 = UInt8.ofInt (f.2.length : Int) := by rw [k3, List.getD_eq_getElem?_getD, List.getElem?_append_right (by omega)]; simp [fieldsB]
      have u1 : w64 ((q.length : Int) + 1) = ((q.length + 1 : Nat) : Int) := by rw [w64_in (by omega)]; omega
      have u2 : w64 ((q.length : Int) + 2) = ((q.length + 2 : Nat) : Int) := by rw [w64_in (by omega)]; omega
      have c1 : (UInt8.ofInt (f.1 : Int)).toNat = f.1 := u8_small (by omega)
      have c2 : (UInt8.ofInt (f.2.length : Int)).toNat = f.2.length := u8_small s4
      have z : (UInt8.ofInt (f.2.length : Int) == 0) = false := by
        rw [beq_eq_false_iff_ne]; intro e; rw [e] at c2; have : (0 : UInt8).toNat = 0 := rfl; omega
      have u3 : w64 (((q.length + 2 : Nat) : Int) + (f.2.length : Int)) = ((q.length + 2 + f.2.length : Nat) : Int) := by rw [w64_in (by omega)]; omega
      simp only [Int.toNat_natCast, u1, u2, gA, gB, List.getD_cons_zero, c1, c2, z, u3]
      repeat' (first | (refine fork_intro (fun h => ?_) (fun h => ?_)) | (refine And.intro ?_ ?_))
      all_goals first | exact True.intro | omega | (simp only [List.length_cons, List.length_nil]; omega) | (exfalso; have h := of_decide_eq_true h; omega) | (exfalso; have h := of_decide_eq_false h; omega) | (cases h; done) | skip
      · refine ⟨(r, f.1), ⟨s5, s2, q ++ [UInt8.ofInt (f.1 : Int), UInt8.ofInt (f.2.length : Int)] ++ f.2, ?_, by simp; omega⟩, by simp, ?_, by trivial⟩
        · rw [k3]; simp [fieldsB]
        · rw [show ((q.length + 2 + f.2.length : Nat) : Int) = (x.l.length : Int) - (fieldsB r).length by omega]
          and_intros <;> first | trivial | rfl
end Go.Abs
