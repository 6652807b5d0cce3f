/-
  Own work. Conditions: none. The plain law: whether a message may be, and its bytes, are the document's. Contracts: the program's reader of bytes. Contracts: a message of bytes, by the program. Contracts: a message of bytes, by the document. Contracts: streams, the program's and the document's. Contracts: records as bytes. Contracts: records as bytes, by the document. Contracts: records of bytes. Contracts: the laws' helpers. Contracts: a message of numbers. Contracts: the chapter's example. The plain law: a message's bytes by the program are the document's. The plain law: what was written is read as it was. The plain law: a message that was written is read as it was, by the program and by the document; both read the same. The plain law: Make's messages may be.
-/
import Derived.Test.YtmgefdndbcgoiaaWireA
set_option linter.unusedVariables false
set_option linter.unusedSimpArgs false
set_option linter.unnecessarySimpa false
namespace Go.Abs
set_option maxRecDepth 100000

/-! ### Which fields are there -/
theorem fd_has (m : Msg) : ∀ j, j < 11 → decide (0 < ((m.fd j).b.l.length : Int)) = m.has (j + 1) := fun j hj => by
  have hw : ∀ (n : Int) (k : Nat), 0 < k ∧ k ≤ 32 → decide (0 < ((wholeB n k).l.length : Int)) = !(n == 0) := fun n k hk => by
    unfold wholeB
    by_cases h : n = 0
    · simp [h]
    · have : (atB (Num.from n) k).length = k := atB_len _ _ hk.2
      rw [if_neg h]
      show decide (0 < ((atB (Num.from n) k).length : Int)) = _
      rw [this, decide_eq_true (by omega)]; simp [h]
  have hf : ∀ x : Num, decide (0 < ((fourB x).l.length : Int)) = !x.isZ := fun x => by
    unfold fourB
    rw [Num.isZ_eq]
    by_cases h : x = Num.zero <;> simp [h, be4]
  rcases j with _ | _ | _ | _ | _ | _ | _ | _ | _ | _ | _ | j
  · exact hw m.proto 1 (by omega)
  · show decide (0 < (m.name.length : Int)) = !(m.name == [])
    cases m.name with
    | nil => rfl
    | cons a l => rw [decide_eq_true (by simp only [List.length_cons]; omega)]; simp
  · exact hf m.a
  · exact hf m.b
  · rfl
  · rfl
  · rfl
  · rfl
  · rfl
  · exact hw m.channel 8 (by omega)
  · exact hw m.e 1 (by omega)
  · omega
/-- A list of fields as a number. -/
def Codes (L : List Int) : Prop := ∃ K : Nat, ofTo L L.length = (K : Int) ∧ K < 4096 ∧ ∀ n, n < 12 → K.testBit n = decide ((n : Int) ∈ L)
theorem codes_of {L : List Int} (K : Nat) (h1 : ofTo L L.length = (K : Int)) (h2 : K < 4096) (h3 : ((List.range 12).all fun n => K.testBit n == decide ((n : Int) ∈ L)) = true) : Codes L :=
  ⟨K, h1, h2, fun n hn => by have := List.all_eq_true.1 h3 n (List.mem_range.2 hn); simpa using this⟩
theorem wantL_codes (m : Msg) : Codes (wantL m) := by
  have key : ∀ (c : Prop) [Decidable c] (a b : List Int), Codes a → Codes b → Codes (if c then a else b) := fun c _ a b h1 h2 => by by_cases h : c <;> simp [h, h1, h2]
  unfold wantL
  have c0 : Codes [] := codes_of 0 (by decide) (by decide) (by decide)
  have c1 : Codes [1, 2, 3, 4] := codes_of 30 (by decide) (by decide) (by decide)
  have c2 : Codes [1, 2, 3] := codes_of 14 (by decide) (by decide) (by decide)
  have c3 : Codes [1, 3, 4, 6] := codes_of 90 (by decide) (by decide) (by decide)
  have c4 : Codes [1, 4, 5] := codes_of 50 (by decide) (by decide) (by decide)
  have c5 : Codes [7] := codes_of 128 (by decide) (by decide) (by decide)
  have c6 : Codes [7, 8] := codes_of 384 (by decide) (by decide) (by decide)
  have c7 : Codes [8] := codes_of 256 (by decide) (by decide) (by decide)
  have c8 : Codes [11] := codes_of 2048 (by decide) (by decide) (by decide)
  have c9 : Codes [1, 2, 9] := codes_of 518 (by decide) (by decide) (by decide)
  have c10 : Codes [8, 10] := codes_of 1280 (by decide) (by decide) (by decide)
  have c11 : Codes [1, 8, 9] := codes_of 770 (by decide) (by decide) (by decide)
  repeat' (first | assumption | apply key)
theorem there_want (m : Msg) : ((m.thereTo 12 : Int) == ofTo (wantL m) (wantL m).length) = true ↔ ∀ j, j < 11 → m.has (j + 1) = decide (((j + 1 : Nat) : Int) ∈ wantL m) := by
  obtain ⟨K, h1, h2, h3⟩ := wantL_codes m
  rw [h1, beq_iff_eq]
  have hlt := m.thereTo_lt 12
  constructor
  · intro h j hj
    have h : m.thereTo 12 = K := by omega
    have := there_test m 12 (j + 1)
    rw [h, h3 (j + 1) (by omega), show decide (j + 1 < 12) = true from decide_eq_true (by omega), Bool.true_and] at this
    exact this.symm
  · intro h
    have : m.thereTo 12 = K := by
      apply Nat.eq_of_testBit_eq
      intro n
      rw [there_test]
      by_cases hn : n < 12
      · rw [h3 n hn, decide_eq_true hn, Bool.true_and]
        cases n with
        | zero =>
          have h0 : ((0 : Nat) : Int) ∉ wantL m := fun hm => by
            have key : ∀ (c : Prop) [Decidable c] (a b : List Int), (0 : Int) ∉ a → (0 : Int) ∉ b → (0 : Int) ∉ (if c then a else b) := fun c _ a b h1 h2 => by by_cases h : c <;> simp [h, h1, h2]
            revert hm
            show (0 : Int) ∉ wantL m
            unfold wantL
            repeat' (first | apply key | (simp; done))
          rw [decide_eq_false h0]; rfl
        | succ j => exact h j (by omega)
      · have h4 : (2 : Nat) ^ 12 ≤ 2 ^ n := Nat.pow_le_pow_right (by omega) (by omega)
        rw [decide_eq_false hn, Bool.false_and, Nat.testBit_lt_two_pow (show K < 2 ^ n by omega)]
    omega
theorem goodTo_iff (m : Msg) : ∀ n, m.goodTo n = true ↔ ∀ j, j < n → m.good j = true
  | 0 => by simp [Msg.goodTo]
  | n + 1 => by
    simp only [Msg.goodTo, Bool.and_eq_true, goodTo_iff m n]
    constructor
    · rintro ⟨h1, h2⟩ j hj
      by_cases e : j = n
      · rw [e]; exact h2
      · exact h1 j (by omega)
    · intro h; exact ⟨fun j hj => h j (by omega), h n (by omega)⟩
theorem right_eq (m : Msg) : m.rightW = m.rightR := by
  rw [Bool.eq_iff_iff]
  unfold Msg.rightW Msg.rightR
  simp only [Bool.and_eq_true, goodTo_iff, Bool.not_eq_true', decide_eq_false_iff_not]
  have hk : ∀ j, j < 11 → (m.fd j).k = ((j + 1 : Nat) : Int) := fun j hj => by
    rcases j with _ | _ | _ | _ | _ | _ | _ | _ | _ | _ | _ | j <;> first | rfl | omega
  have hgood : ∀ j, j < 11 → (m.good j = true ↔ (m.fd j).ok = true ∧ m.has (j + 1) = decide (((j + 1 : Nat) : Int) ∈ wantL m)) := fun j hj => by
    unfold Msg.good
    rw [Bool.and_eq_true, fd_has m j hj, hk j hj, beq_iff_eq]
  have hoks : (∀ j, j < 11 → (m.fd j).ok = true) ↔ (m.ok1 = true ∧ m.ok2 = true ∧ m.a.low = true ∧ m.b.low = true ∧ m.okR = true) := by
    unfold Msg.okR
    simp only [Bool.and_eq_true]
    constructor
    · intro h
      have h9 := h 10 (by omega)
      simp only [Msg.fd, Bool.and_eq_true] at h9
      exact ⟨h 0 (by omega), h 1 (by omega), h 2 (by omega), h 3 (by omega), h 4 (by omega), h 5 (by omega), h 6 (by omega), h 7 (by omega), h 8 (by omega), h 9 (by omega), h9.1, h9.2⟩
    · rintro ⟨h0, h1, h2, h3, h4, h5, h6, h7, h8, h9, h10, h11⟩ j hj
      rcases j with _ | _ | _ | _ | _ | _ | _ | _ | _ | _ | _ | j
      · exact h0
      · exact h1
      · exact h2
      · exact h3
      · exact h4
      · exact h5
      · exact h6
      · exact h7
      · exact h8
      · exact h9
      · simp only [Msg.fd, h10, h11]; rfl
      · omega
  have h1 : m.ok1 = true ↔ ¬ m.proto < 0 ∧ ¬ 2 < m.proto := by
    unfold Msg.ok1; simp only [Bool.and_eq_true, decide_eq_true_eq]; omega
  constructor
  · rintro ⟨k1, k2, k3⟩
    have ho := hoks.1 fun j hj => ((hgood j hj).1 (k3 j hj)).1
    refine ⟨?_, (h1.1 ho.1).1, (h1.1 ho.1).2, ho.2.1, ho.2.2.1, ho.2.2.2.1, ho.2.2.2.2⟩
    rw [wantN, if_pos (by omega), there_want]
    exact fun j hj => ((hgood j hj).1 (k3 j hj)).2
  · rintro ⟨k1, k2, k3, k4, k5, k6, k7⟩
    have hkind : 1 ≤ m.kind ∧ m.kind ≤ 12 := by
      by_cases h : 1 ≤ m.kind ∧ m.kind ≤ 12
      · exact h
      · rw [wantN, if_neg h, beq_iff_eq] at k1; omega
    rw [wantN, if_pos hkind, there_want] at k1
    have ho := hoks.2 ⟨h1.2 ⟨k2, k3⟩, k4, k5, k6, k7⟩
    exact ⟨by omega, by omega, fun j hj => (hgood j hj).2 ⟨ho j hj, k1 j hj⟩⟩
end Go.Abs

namespace Go.Abs
open Go.Proofs
set_option maxRecDepth 100000

structure Rd where
  b : By
  bad : Bool
def Rd.A (r : Rd) : AV := .agg [r.b.A, .bool r.bad]
def rdD : AV → Option Rd
  | .agg [x, .bool bad] => match byD x with | some b => some ⟨b, bad⟩ | none => none
  | _ => none
theorem rdD_tellC (a : AV) (r : Rd) (h : rdD a = some r) : TellC a r.A := by
  unfold rdD at h
  split at h
  · split at h
    · rename_i hb; cases h; exact TellC.agg ⟨byD_tell _ _ hb, Tell.refl _, trivial⟩
    · cases h
  · cases h
theorem rdD_tell (a : AV) (r : Rd) (h : rdD a = some r) : Tell a r.A := by
  unfold rdD at h
  split at h
  · split at h
    · rename_i hb; cases h; exact Tell.agg ⟨byD_tell _ _ hb, Tell.refl _, trivial⟩
    · cases h
  · cases h
def kRd : Kd Rd := ⟨rdD, Rd.A, rdD_tell, fun _ => rfl⟩
theorem Rd.eta (r : Rd) : Rd.mk r.b r.bad = r := rfl
/-- take. -/
def Rd.fits (r : Rd) (n : Int) : Bool := !decide (n < 0) && !decide ((r.b.l.length : Int) < n)
def Rd.got (r : Rd) (n : Int) : By := match r.fits n with | true => ⟨r.b.nil, r.b.l.take n.toNat⟩ | false => ⟨true, []⟩
def Rd.next (r : Rd) (n : Int) : Rd := match r.fits n with | true => ⟨⟨r.b.nil, r.b.l.drop n.toNat⟩, r.bad⟩ | false => ⟨⟨true, []⟩, true⟩
theorem Rd.got_le (r : Rd) (n : Int) : (r.got n).l.length ≤ r.b.l.length := by
  unfold Rd.got; split
  · simp; omega
  · simp
theorem Rd.next_le (r : Rd) (n : Int) : (r.next n).b.l.length ≤ r.b.l.length := by
  unfold Rd.next; split
  · simp
  · simp
theorem fn51 (r : Rd) (n : Int) (hr : r.b.l.length ≤ 1099511627776) : ACalls Try.prog 51 [.ptr 0 0 0, .int n] [⟨0, r.A, false⟩] (fun a h => a = (r.got n).A ∧ h = [⟨0, (r.next n).A, false⟩]) := by
  refine ACalls.tell (K := fun a h => byD a = some (r.got n) ∧ ∃ c, h = [⟨0, c, false⟩] ∧ rdD c = some (r.next n)) ?_ ?_
  · refine run51 (Γ := GK 1 keep51 [(64, e64)]) (own := false) (kn := 1) (.cons ok64 in64 .nil) (Nat.le_of_ble_eq_true rfl) rfl (Nat.le_refl _) ?_
    dsimp only [c51, keep51, res51, Rd.A, e64, By.eta, run, runOps, onER, doOp, noOp, ifB, onG, onGd, onB, onL, xfB, lookB, ↓fork_true, ↓fork_false, chkC, evc, vOnly, ev, evBin, evUn, evEq, evConv, evSlice, evApp, appSl, appMs, evCall, sfind, srcS, rdS, nilK, ctakeT0, eq1, eqs, shn, ngt, xv, xvs, xi, look, Go.Abs.put, trim, conj, both, argS, leafK, resv, one, one1, ofC, frzL, frzV, hasMs, hasMsL, hlen, hget, hset, hsnoc, htake, lget, ldrop, ltake, lset, lapp, lput, llen, lrep, cget, csub, cexp, exU8, exU32, exInt, cset, cput, capp, clen, toC, csubT, ctakeT, cdropT, celT, mulz, typed, ab?, ai?, au?, zeros, lay, lenS, offS, fulS, cutS, cutT, bnds, below, belowL, hbelow, sbelow, xfind, fits, eqS, eqH, eqO, loopK, sameS, sameH, SameL, Nat.beq, Nat.ble, Int.reduceToNat, Nat.reduceAdd, Nat.reduceMul, Nat.reduceSub, Int.reduceLT, Int.reduceLE, Int.reduceNeg, UInt64.reduceToNat, UInt32.reduceToNat, UInt8.reduceToNat, G0, GL, ev0, ev1, ev2, ev3, ev4, intD, u32D, u8D, boolD, strD, byD, numD, intsD, By.A, Num.C, sp0, s0f, objOf, peelB, startK, entryK, finB, allX, andE, GK, GKL, GR, onR, rfind, noR, fdShape, elT, allN, endR, retR, failK, rangeP, Nat.blt, Nat.succ, evP, l0D, l1D, l2D, frzI, frzR, ownF, frzC, frzA, frzJ, allFz, nestL]
    have bad : r.fits n = false → (some { nil := true, l := [] } = some (r.got n) ∧ ∃ c, ([⟨0, AV.agg [AV.sl true 0 0 (AV.agg []) true, AV.bool true], false⟩] : List AO) = [⟨0, c, false⟩] ∧ rdD c = some (r.next n)) := fun h =>
      ⟨by rw [Rd.got, h], _, rfl, by rw [Rd.next, h]; rfl⟩
    refine fork_intro (fun h => bad (by rw [Rd.fits, h]; rfl)) (fun h => fork_intro (fun h2 => bad (by rw [Rd.fits, h2]; simp)) (fun h2 => ?_))
    have hf : r.fits n = true := by rw [Rd.fits, h, h2]; rfl
    have h := of_decide_eq_false h
    have h2 := of_decide_eq_false h2
    refine ⟨by omega, by omega, by rw [List.length_take]; omega, by rw [Rd.got, hf], _, rfl, ?_⟩
    rw [Rd.next, hf]; rfl
  · rintro a h ⟨h1, c, rfl, h2⟩
    exact ⟨_, _, ⟨rfl, rfl⟩, byD_tell _ _ h1, ⟨rfl, rfl, rdD_tellC _ _ h2⟩, trivial⟩
def e51 : SpE := ⟨true, evP rdD Rd.A (l1D intD) (fun r _ => some (r.b.l.length ≤ 1099511627776)) (fun r n => (r.got n).A) (fun r n => r.next n)⟩
theorem ok51 : SpE.ok Try.prog 51 e51 := evP_ok kRd rdD_tellC (kl1 kInt) (fun _ _ => rfl) (fun r n h => fn51 r n h)
/-- num, number, long. -/
def Rd.num (r : Rd) (n : Int) : Num := Num.read (r.got n).l
def Num.i64 (x : Num) : Int := w64 ((UInt64.ofNat x.a0.toNat ||| UInt64.ofNat ((UInt64.ofNat x.a1.toNat).toNat * 2 ^ min 32 64)).toNat : Int)
theorem fn67 (r : Rd) (n : Int) (hr : r.b.l.length ≤ 1099511627776) : ACalls Try.prog 67 [.ptr 0 0 0, .int n] [⟨0, r.A, false⟩] (fun a h => a = .agg (r.num n).C ∧ h = [⟨0, (r.next n).A, false⟩]) := by
  refine run67 (Γ := GK 1 keep67 [(51, e51), (84, e84)]) (own := false) (kn := 1) (.cons ok51 in51 (.cons ok84 in84 .nil)) (Nat.le_of_ble_eq_true rfl) rfl (Nat.le_refl _) ?_
  dsimp only [c67, keep67, res67, Rd.A, rdD, e51, e84, By.eta, Rd.eta, run, runOps, onER, doOp, noOp, ifB, onG, onGd, onB, onL, xfB, lookB, ↓fork_true, ↓fork_false, chkC, evc, vOnly, ev, evBin, evUn, evEq, evConv, evSlice, evApp, appSl, appMs, evCall, sfind, srcS, rdS, nilK, ctakeT0, eq1, eqs, shn, ngt, xv, xvs, xi, look, Go.Abs.put, trim, conj, both, argS, leafK, resv, one, one1, ofC, frzL, frzV, hasMs, hasMsL, hlen, hget, hset, hsnoc, htake, lget, ldrop, ltake, lset, lapp, lput, llen, lrep, cget, csub, cexp, exU8, exU32, exInt, cset, cput, capp, clen, toC, csubT, ctakeT, cdropT, celT, mulz, typed, ab?, ai?, au?, zeros, lay, lenS, offS, fulS, cutS, cutT, bnds, below, belowL, hbelow, sbelow, xfind, fits, eqS, eqH, eqO, loopK, sameS, sameH, SameL, Nat.beq, Nat.ble, Int.reduceToNat, Nat.reduceAdd, Nat.reduceMul, Nat.reduceSub, Int.reduceLT, Int.reduceLE, Int.reduceNeg, UInt64.reduceToNat, UInt32.reduceToNat, UInt8.reduceToNat, G0, GL, ev0, ev1, ev2, ev3, ev4, intD, u32D, u8D, boolD, strD, byD, numD, intsD, By.A, Num.C, sp0, s0f, objOf, peelB, startK, entryK, finB, allX, andE, GK, GKL, GR, onR, rfind, noR, fdShape, elT, allN, endR, retR, failK, rangeP, Nat.blt, Nat.succ, evP, l0D, l1D, l2D, frzI, frzR, ownF, frzC, frzA, frzJ, allFz, nestL]
  and_intros <;> first | trivial | rfl | omega
def e67 : SpE := ⟨true, evP rdD Rd.A (l1D intD) (fun r _ => some (r.b.l.length ≤ 1099511627776)) (fun r n => .agg (r.num n).C) (fun r n => r.next n)⟩
theorem ok67 : SpE.ok Try.prog 67 e67 := evP_ok kRd rdD_tellC (kl1 kInt) (fun _ _ => rfl) (fun r n h => fn67 r n h)
theorem fn52 (r : Rd) (n : Int) (hr : r.b.l.length ≤ 1099511627776) : ACalls Try.prog 52 [.ptr 0 0 0, .int n] [⟨0, r.A, false⟩] (fun a h => a = .int (r.num n).i64 ∧ h = [⟨0, (r.next n).A, false⟩]) := by
  refine run52 (Γ := GK 1 keep52 [(67, e67)]) (own := false) (kn := 1) (.cons ok67 in67 .nil) (Nat.le_of_ble_eq_true rfl) rfl (Nat.le_refl _) ?_
  dsimp only [c52, keep52, res52, Rd.A, rdD, e67, By.eta, Rd.eta, run, runOps, onER, doOp, noOp, ifB, onG, onGd, onB, onL, xfB, lookB, ↓fork_true, ↓fork_false, chkC, evc, vOnly, ev, evBin, evUn, evEq, evConv, evSlice, evApp, appSl, appMs, evCall, sfind, srcS, rdS, nilK, ctakeT0, eq1, eqs, shn, ngt, xv, xvs, xi, look, Go.Abs.put, trim, conj, both, argS, leafK, resv, one, one1, ofC, frzL, frzV, hasMs, hasMsL, hlen, hget, hset, hsnoc, htake, lget, ldrop, ltake, lset, lapp, lput, llen, lrep, cget, csub, cexp, exU8, exU32, exInt, cset, cput, capp, clen, toC, csubT, ctakeT, cdropT, celT, mulz, typed, ab?, ai?, au?, zeros, lay, lenS, offS, fulS, cutS, cutT, bnds, below, belowL, hbelow, sbelow, xfind, fits, eqS, eqH, eqO, loopK, sameS, sameH, SameL, Nat.beq, Nat.ble, Int.reduceToNat, Nat.reduceAdd, Nat.reduceMul, Nat.reduceSub, Int.reduceLT, Int.reduceLE, Int.reduceNeg, UInt64.reduceToNat, UInt32.reduceToNat, UInt8.reduceToNat, G0, GL, ev0, ev1, ev2, ev3, ev4, intD, u32D, u8D, boolD, strD, byD, numD, intsD, By.A, Num.C, sp0, s0f, objOf, peelB, startK, entryK, finB, allX, andE, GK, GKL, GR, onR, rfind, noR, fdShape, elT, allN, endR, retR, failK, rangeP, Nat.blt, Nat.succ, evP, l0D, l1D, l2D, frzI, frzR, ownF, frzC, frzA, frzJ, allFz, nestL]
  and_intros <;> first | trivial | rfl | omega
def e52 : SpE := ⟨true, evP rdD Rd.A (l1D intD) (fun r _ => some (r.b.l.length ≤ 1099511627776)) (fun r n => .int (r.num n).i64) (fun r n => r.next n)⟩
theorem ok52 : SpE.ok Try.prog 52 e52 := evP_ok kRd rdD_tellC (kl1 kInt) (fun _ _ => rfl) (fun r n h => fn52 r n h)
def Rd.long (r : Rd) : By := (r.next 1).got (r.num 1).i64
def Rd.nextL (r : Rd) : Rd := (r.next 1).next (r.num 1).i64
theorem fn54 (r : Rd) (hr : r.b.l.length ≤ 1099511627776) : ACalls Try.prog 54 [.ptr 0 0 0] [⟨0, r.A, false⟩] (fun a h => a = r.long.A ∧ h = [⟨0, r.nextL.A, false⟩]) := by
  have h2 := r.next_le 1
  refine run54 (Γ := GK 1 keep54 [(51, e51), (52, e52)]) (own := false) (kn := 1) (.cons ok51 in51 (.cons ok52 in52 .nil)) (Nat.le_of_ble_eq_true rfl) rfl (Nat.le_refl _) ?_
  dsimp only [c54, keep54, res54, Rd.A, rdD, e51, e52, By.eta, Rd.eta, run, runOps, onER, doOp, noOp, ifB, onG, onGd, onB, onL, xfB, lookB, ↓fork_true, ↓fork_false, chkC, evc, vOnly, ev, evBin, evUn, evEq, evConv, evSlice, evApp, appSl, appMs, evCall, sfind, srcS, rdS, nilK, ctakeT0, eq1, eqs, shn, ngt, xv, xvs, xi, look, Go.Abs.put, trim, conj, both, argS, leafK, resv, one, one1, ofC, frzL, frzV, hasMs, hasMsL, hlen, hget, hset, hsnoc, htake, lget, ldrop, ltake, lset, lapp, lput, llen, lrep, cget, csub, cexp, exU8, exU32, exInt, cset, cput, capp, clen, toC, csubT, ctakeT, cdropT, celT, mulz, typed, ab?, ai?, au?, zeros, lay, lenS, offS, fulS, cutS, cutT, bnds, below, belowL, hbelow, sbelow, xfind, fits, eqS, eqH, eqO, loopK, sameS, sameH, SameL, Nat.beq, Nat.ble, Int.reduceToNat, Nat.reduceAdd, Nat.reduceMul, Nat.reduceSub, Int.reduceLT, Int.reduceLE, Int.reduceNeg, UInt64.reduceToNat, UInt32.reduceToNat, UInt8.reduceToNat, G0, GL, ev0, ev1, ev2, ev3, ev4, intD, u32D, u8D, boolD, strD, byD, numD, intsD, By.A, Num.C, sp0, s0f, objOf, peelB, startK, entryK, finB, allX, andE, GK, GKL, GR, onR, rfind, noR, fdShape, elT, allN, endR, retR, failK, rangeP, Nat.blt, Nat.succ, evP, l0D, l1D, l2D, frzI, frzR, ownF, frzC, frzA, frzJ, allFz, nestL]
  and_intros <;> first | trivial | rfl | omega
def e54 : SpE := ⟨true, evP rdD Rd.A l0D (fun r _ => some (r.b.l.length ≤ 1099511627776)) (fun r _ => r.long.A) (fun r _ => r.nextL)⟩
theorem ok54 : SpE.ok Try.prog 54 e54 := evP_ok kRd rdD_tellC kl0 (fun _ _ => rfl) (fun r n h => fn54 r h)

/-! ### A field into a message -/
def Msg.put (m : Msg) (k : Int) (b : By) : Msg :=
  if k = 1 then { m with proto := ((Rd.mk b false).num 1).i64 } else if k = 2 then { m with name := b.l } else if k = 3 then { m with a := (Rd.mk b false).num 4 } else if k = 4 then { m with b := (Rd.mk b false).num 4 }
  else if k = 5 then { m with salt := b } else if k = 6 then { m with sea := b } else if k = 7 then { m with tag := b } else if k = 8 then { m with tok := b } else if k = 9 then { m with rcd := b }
  else if k = 10 then { m with channel := ((Rd.mk b false).num 8).i64 } else if k = 11 then { m with e := ((Rd.mk b false).num 1).i64 } else m
theorem msgD_tellC (a : AV) (m : Msg) (h : msgD a = some m) : TellC a (.agg m.C) := by
  unfold msgD at h
  split at h
  · split at h
    · rename_i h1
      split at h
      · rename_i h2
        split at h
        · rename_i h3
          split at h
          · rename_i h4
            split at h
            · rename_i h5
              cases h
              refine TellC.agg ?_
              simp only [Msg.C, TellL]
              exact ⟨Tell.refl _, Tell.refl _, Tell.refl _, Tell.refl _, Tell.refl _, Tell.refl _, Tell.refl _, Tell.refl _, Tell.refl _, Tell.refl _, Tell.refl _, Tell.refl _, Tell.refl _, Tell.refl _, Tell.refl _, Tell.refl _,
                Tell.refl _, Tell.refl _, Tell.refl _, Tell.refl _, Tell.refl _, byD_tell _ _ h1, byD_tell _ _ h2, byD_tell _ _ h3, byD_tell _ _ h4, byD_tell _ _ h5, trivial⟩
            · cases h
          · cases h
        · cases h
      · cases h
    · cases h
  · cases h
set_option maxHeartbeats 4000000 in
theorem fn53 (m : Msg) (k : Int) (b : By) (hb : b.l.length ≤ 1099511627776) : ACalls Try.prog 53 [.ptr 0 0 0, .int k, b.A] [⟨0, .agg m.C, false⟩] (fun a h => a = .bool (decide (1 ≤ k) && decide (k ≤ 11)) ∧ h = [⟨0, .agg (m.put k b).C, false⟩]) := by
  refine ACalls.tell (K := fun a h => a = .bool (decide (1 ≤ k) && decide (k ≤ 11)) ∧ ∃ c, h = [⟨0, c, false⟩] ∧ msgD c = some (m.put k b)) ?_ ?_
  · refine run53 (Γ := GK 1 keep53 [(52, e52), (67, e67)]) (own := false) (kn := 1) (.cons ok52 in52 (.cons ok67 in67 .nil)) (Nat.le_of_ble_eq_true rfl) rfl (Nat.le_refl _) ?_
    dsimp only [c53, keep53, res53, Msg.C, rdD, e52, e67, By.eta, Rd.eta, Rd.A, run, runOps, onER, doOp, noOp, ifB, onG, onGd, onB, onL, xfB, lookB, ↓fork_true, ↓fork_false, chkC, evc, vOnly, ev, evBin, evUn, evEq, evConv, evSlice, evApp, appSl, appMs, evCall, sfind, srcS, rdS, nilK, ctakeT0, eq1, eqs, shn, ngt, xv, xvs, xi, look, Go.Abs.put, trim, conj, both, argS, leafK, resv, one, one1, ofC, frzL, frzV, hasMs, hasMsL, hlen, hget, hset, hsnoc, htake, lget, ldrop, ltake, lset, lapp, lput, llen, lrep, cget, csub, cexp, exU8, exU32, exInt, cset, cput, capp, clen, toC, csubT, ctakeT, cdropT, celT, mulz, typed, ab?, ai?, au?, zeros, lay, lenS, offS, fulS, cutS, cutT, bnds, below, belowL, hbelow, sbelow, xfind, fits, eqS, eqH, eqO, loopK, sameS, sameH, SameL, Nat.beq, Nat.ble, Int.reduceToNat, Nat.reduceAdd, Nat.reduceMul, Nat.reduceSub, Int.reduceLT, Int.reduceLE, Int.reduceNeg, UInt64.reduceToNat, UInt32.reduceToNat, UInt8.reduceToNat, G0, GL, ev0, ev1, ev2, ev3, ev4, intD, u32D, u8D, boolD, strD, byD, numD, intsD, By.A, Num.C, sp0, s0f, objOf, peelB, startK, entryK, finB, allX, andE, GK, GKL, GR, onR, rfind, noR, fdShape, elT, allN, endR, retR, failK, rangeP, Nat.blt, Nat.succ, evP, l0D, l1D, l2D, frzI, frzR, ownF, frzC, frzA, frzJ, allFz, nestL]
    refine fork_intro (fun h => ?_) (fun h1 => ?_)
    · obtain rfl : k = 1 := eq_of_beq h
      and_intros <;> first | exact hb | rfl | trivial | omega | exact ⟨_, rfl, rfl⟩
    refine fork_intro (fun h => ?_) (fun h2 => ?_)
    · obtain rfl : k = 2 := eq_of_beq h
      and_intros <;> first | exact hb | rfl | trivial | omega | exact ⟨_, rfl, rfl⟩
    refine fork_intro (fun h => ?_) (fun h3 => ?_)
    · obtain rfl : k = 3 := eq_of_beq h
      and_intros <;> first | exact hb | rfl | trivial | omega | exact ⟨_, rfl, rfl⟩
    refine fork_intro (fun h => ?_) (fun h4 => ?_)
    · obtain rfl : k = 4 := eq_of_beq h
      and_intros <;> first | exact hb | rfl | trivial | omega | exact ⟨_, rfl, rfl⟩
    refine fork_intro (fun h => ?_) (fun h5 => ?_)
    · obtain rfl : k = 5 := eq_of_beq h
      and_intros <;> first | exact hb | rfl | trivial | omega | exact ⟨_, rfl, rfl⟩
    refine fork_intro (fun h => ?_) (fun h6 => ?_)
    · obtain rfl : k = 6 := eq_of_beq h
      and_intros <;> first | exact hb | rfl | trivial | omega | exact ⟨_, rfl, rfl⟩
    refine fork_intro (fun h => ?_) (fun h7 => ?_)
    · obtain rfl : k = 7 := eq_of_beq h
      and_intros <;> first | exact hb | rfl | trivial | omega | exact ⟨_, rfl, rfl⟩
    refine fork_intro (fun h => ?_) (fun h8 => ?_)
    · obtain rfl : k = 8 := eq_of_beq h
      and_intros <;> first | exact hb | rfl | trivial | omega | exact ⟨_, rfl, rfl⟩
    refine fork_intro (fun h => ?_) (fun h9 => ?_)
    · obtain rfl : k = 9 := eq_of_beq h
      and_intros <;> first | exact hb | rfl | trivial | omega | exact ⟨_, rfl, rfl⟩
    refine fork_intro (fun h => ?_) (fun h10 => ?_)
    · obtain rfl : k = 10 := eq_of_beq h
      and_intros <;> first | exact hb | rfl | trivial | omega | exact ⟨_, rfl, rfl⟩
    refine fork_intro (fun h => ?_) (fun h11 => ?_)
    · obtain rfl : k = 11 := eq_of_beq h
      and_intros <;> first | exact hb | rfl | trivial | omega | exact ⟨_, rfl, rfl⟩
    simp only [beq_eq_false_iff_ne, ne_eq] at *
    have e : (decide (1 ≤ k) && decide (k ≤ 11)) = false := by
      rw [Bool.and_eq_false_iff, decide_eq_false_iff_not, decide_eq_false_iff_not]; omega
    and_intros <;> first | exact hb | rfl | trivial | omega | (rw [e]; done) | skip
    refine ⟨_, rfl, ?_⟩
    simp only [Msg.put, *, if_false]
    rfl
  · rintro a h ⟨h1, c, rfl, h2⟩
    exact ⟨_, _, ⟨h1, rfl⟩, Tell.refl _, ⟨rfl, rfl, msgD_tellC _ _ h2⟩, trivial⟩
def e53 : SpE := ⟨true, evP msgD (fun m => .agg m.C) (l2D intD byD) (fun _ x => some (x.2.l.length ≤ 1099511627776)) (fun _ x => .bool (decide (1 ≤ x.1) && decide (x.1 ≤ 11))) (fun m x => m.put x.1 x.2)⟩
theorem l2D_tell {α β : Type} (k1 : Kd α) (k2 : Kd β) (a : List AV) (x : α × β) (h : l2D k1.dec k2.dec a = some x) : TellL a [k1.enc x.1, k2.enc x.2] := by
  unfold l2D at h
  split at h
  · split at h
    · rename_i y hy
      split at h
      · rename_i z hz; cases h; exact ⟨k1.tell _ _ hy, k2.tell _ _ hz, trivial⟩
      · cases h
    · cases h
  · cases h
def kl2 {α β : Type} (k1 : Kd α) (k2 : Kd β) : KL (α × β) := ⟨l2D k1.dec k2.dec, fun x => [k1.enc x.1, k2.enc x.2], l2D_tell k1 k2, fun x => by simp [belowL, k1.below, k2.below]⟩
theorem ok53 : SpE.ok Try.prog 53 e53 := evP_ok kMsg msgD_tellC (kl2 kInt kBy) (fun _ _ => rfl) (fun m x h => fn53 m x.1 x.2 h)
end Go.Abs

namespace Go.Abs
open Go.Proofs
set_option maxRecDepth 100000

def By.no : By := ⟨true, []⟩
def Msg.zero : Msg := ⟨0, 0, 0, 0, [], Num.zero, Num.zero, By.no, By.no, By.no, By.no, By.no⟩
/-- Decode's loop: the message that comes of the fields; none: one that may not be. -/
def decLoop : Nat → Msg → Rd → Option Msg
  | 0, m, _ => some m
  | n + 1, m, r => match r.bad || r.b.l.isEmpty with
    | true => some m
    | false => match decide (1 ≤ (r.num 1).i64) && decide ((r.num 1).i64 ≤ 11) with
      | true => decLoop n (m.put (r.num 1).i64 (r.next 1).long) (r.next 1).nextL
      | false => none
def msg0 (b : By) : Msg := { Msg.zero with kind := (((Rd.mk b false).next 2).num 1).i64 }
def rd0 (b : By) : Rd := ((Rd.mk b false).next 2).next 1
def decW (b : By) : Option Msg := match decLoop (rd0 b).b.l.length (msg0 b) (rd0 b) with
  | some m => match m.isW && (m.outW.l == b.l) with | true => some m | false => none
  | none => none
def orZ : Option Msg → Msg | some m => m | none => Msg.zero
theorem next_lt (r : Rd) (h : r.b.l ≠ []) : (r.next 1).nextL.b.l.length < r.b.l.length := by
  have h1 : (r.next 1).b.l.length < r.b.l.length := by
    have : 0 < r.b.l.length := List.length_pos_iff.2 h
    unfold Rd.next
    split
    · simp; omega
    · simp; omega
  have h2 := (r.next 1).next_le 1
  have h3 := ((r.next 1).next 1).next_le ((r.next 1).num 1).i64
  unfold Rd.nextL; omega
theorem decLoop_more : ∀ (n k : Nat) (m : Msg) (r : Rd), r.b.l.length ≤ n → decLoop (n + k) m r = decLoop n m r
  | 0, k, m, r, h => by
    have : r.b.l = [] := List.eq_nil_of_length_eq_zero (by omega)
    cases k with
    | zero => rfl
    | succ k => simp [decLoop, this]
  | n + 1, k, m, r, h => by
    rw [show n + 1 + k = n + k + 1 by omega]
    simp only [decLoop]
    cases hb : (r.bad || r.b.l.isEmpty) with
    | true => rfl
    | false =>
      have hne : r.b.l ≠ [] := by intro e; rw [e] at hb; simp at hb
      have := next_lt r hne
      simp only
      split
      · exact decLoop_more n k _ _ (by omega)
      · rfl
def isMsg (a : AV) (m : Msg) : Prop := msgD a = some m
theorem fin_none {x : AV} {d : Option Msg} (hx : isMsg x Msg.zero) (e : d = none) : ∃ a, AV.tup [x, .bool false] = .tup [a, .bool d.isSome] ∧ isMsg a (orZ d) := ⟨x, by rw [e]; rfl, by rw [e]; exact hx⟩
theorem fin_some {x : AV} {d : Option Msg} {m : Msg} (hx : isMsg x m) (e : d = some m) : ∃ a, AV.tup [x, .bool true] = .tup [a, .bool d.isSome] ∧ isMsg a (orZ d) := ⟨x, by rw [e]; rfl, by rw [e]; exact hx⟩
def L20 (b : By) : LI where
  X := Msg × Rd
  x0 := (msg0 b, rd0 b)
  pre x := x.2.b.l.length ≤ 1099511627776 ∧ decLoop x.2.b.l.length x.1 x.2 = decLoop (rd0 b).b.l.length (msg0 b) (rd0 b)
  inv x := ([(0, b.A), (2, .ptr 0 0 0), (3, .bool false), (4, .ptr 1 0 0), (5, .ptr 2 0 0)], [⟨0, .agg Msg.zero.C, false⟩, ⟨0, x.2.A, false⟩, ⟨0, .agg x.1.C, false⟩])
  mu x := x.2.b.l.length
  ren := false
set_option maxHeartbeats 4000000 in
theorem fn20 (b : By) (hb : b.l.length ≤ 1099511627776) : ACalls Try.prog 20 [b.A] [] (fun r h => r = .tup [.agg (orZ (decW b)).C, .bool (decW b).isSome] ∧ h = []) := by
  refine ACalls.tell (K := fun r h => (∃ a, r = .tup [a, .bool (decW b).isSome] ∧ isMsg a (orZ (decW b))) ∧ h = []) ?_ ?_
  · refine run20 (Γ := GL keep20 [(17, e17), (51, e51), (52, e52), (53, e53), (54, e54), (55, e55)] fun _ => L20 b) (own := false) (kn := 0) (.cons ok17 in17 (.cons ok51 in51 (.cons ok52 in52 (.cons ok53 in53 (.cons ok54 in54 (.cons ok55 in55 .nil)))))) (Nat.le_of_ble_eq_true rfl) rfl (Nat.le_refl _) ?_
    dsimp only [c20, keep20, res20, L20, Msg.C, Rd.A, rdD, msgD, e17, e51, e52, e53, e54, e55, Num.eta, By.eta, Rd.eta, Msg.eta, run, runOps, onER, doOp, noOp, ifB, onG, onGd, onB, onL, xfB, lookB, ↓fork_true, ↓fork_false, chkC, evc, vOnly, ev, evBin, evUn, evEq, evConv, evSlice, evApp, appSl, appMs, evCall, sfind, srcS, rdS, nilK, ctakeT0, eq1, eqs, shn, ngt, xv, xvs, xi, look, Go.Abs.put, trim, conj, both, argS, leafK, resv, one, one1, ofC, frzL, frzV, hasMs, hasMsL, hlen, hget, hset, hsnoc, htake, lget, ldrop, ltake, lset, lapp, lput, llen, lrep, cget, csub, cexp, exU8, exU32, exInt, cset, cput, capp, clen, toC, csubT, ctakeT, cdropT, celT, mulz, typed, ab?, ai?, au?, zeros, lay, lenS, offS, fulS, cutS, cutT, bnds, below, belowL, hbelow, sbelow, xfind, fits, eqS, eqH, eqO, loopK, sameS, sameH, SameL, Nat.beq, Nat.ble, Int.reduceToNat, Nat.reduceAdd, Nat.reduceMul, Nat.reduceSub, Int.reduceLT, Int.reduceLE, Int.reduceNeg, UInt64.reduceToNat, UInt32.reduceToNat, UInt8.reduceToNat, G0, GL, ev0, ev1, ev2, ev3, ev4, intD, u32D, u8D, boolD, strD, byD, numD, intsD, By.A, Num.C, sp0, s0f, objOf, peelB, startK, entryK, finB, allX, andE, GK, GKL, GR, onR, rfind, noR, fdShape, elT, allN, endR, retR, failK, rangeP, Nat.blt, Nat.succ, evP, l0D, l1D, l2D, frzI, frzR, ownF, frzC, frzA, frzJ, allFz, nestL]
    have n2 := (Rd.mk b false).next_le 2
    have n1 := ((Rd.mk b false).next 2).next_le 1
    have hb' : (Rd.mk b false).b.l.length ≤ 1099511627776 := hb
    refine ⟨hb, by omega, rfl, ⟨⟨?_, ?_⟩, ?_, rfl⟩, fun x hx => ?_⟩
    · and_intros <;> first | rfl | trivial
    · refine ⟨⟨rfl, rfl, .tell (msgD_tellC _ Msg.zero rfl)⟩, ⟨rfl, rfl, .inl rfl⟩, ⟨rfl, rfl, .tell (msgD_tellC _ (msg0 b) rfl)⟩, trivial⟩
    · show ((Rd.mk b false).next 2 |>.next 1).b.l.length ≤ _; omega
    obtain ⟨m, r⟩ := x
    obtain ⟨hx1, hx2⟩ := hx
    simp only at hx1 hx2 ⊢
    have s1 := r.next_le 1
    have s2 := (r.next 1).next_le 1
    have s3 := ((r.next 1).next 1).next_le ((r.next 1).num 1).i64
    have s4 := ((r.next 1).next 1).got_le ((r.next 1).num 1).i64
    have lst : ∀ d, decLoop (rd0 b).b.l.length (msg0 b) (rd0 b) = d → decW b = match d with | some m => (match m.isW && (m.outW.l == b.l) with | true => some m | false => none) | none => none := fun d hd => by rw [decW, hd]
    have ends : (r.bad || r.b.l.isEmpty) = true → decLoop (rd0 b).b.l.length (msg0 b) (rd0 b) = some m := fun h => by
      rw [← hx2]
      cases r.b.l.length with
      | zero => rfl
      | succ n => rw [decLoop, h]
    have stop : (r.bad || r.b.l.isEmpty) = true → decW b = (match m.isW && (m.outW.l == b.l) with | true => some m | false => none) := fun h => lst _ (ends h)
    have go : (r.bad || r.b.l.isEmpty) = false → ∃ n, r.b.l.length = n + 1 ∧ decLoop (rd0 b).b.l.length (msg0 b) (rd0 b) = (match decide (1 ≤ (r.num 1).i64) && decide ((r.num 1).i64 ≤ 11) with
        | true => decLoop n (m.put (r.num 1).i64 (r.next 1).long) (r.next 1).nextL | false => none) := fun h => by
      rw [← hx2]
      cases hl : r.b.l.length with
      | zero => rw [List.eq_nil_of_length_eq_zero hl] at h; simp at h
      | succ n => exact ⟨n, rfl, by rw [decLoop, h]⟩
    refine fork_intro (fun h => fork_intro (fun h2 => ?_) (fun h2 => ?_)) (fun h => ?_)
    · have h2 := of_decide_eq_true h2
      have hbe : (r.bad || r.b.l.isEmpty) = false := by
        rw [not_t h, Bool.false_or]
        cases hl : r.b.l with
        | nil => rw [hl] at h2; simp at h2
        | cons a l => rfl
      obtain ⟨n, hn, hd⟩ := go hbe
      refine ⟨hx1, by omega, by show ((r.next 1).next 1 |>.got ((r.next 1).num 1).i64).l.length ≤ _; omega, fork_intro (fun h3 => ?_) (fun h3 => ?_)⟩
      · rw [not_t h3] at hd
        have e := lst _ hd
        and_intros <;> first | trivial | exact Nat.zero_le _ | exact fin_none rfl e
      · rw [not_f h3] at hd
        have hlt := next_lt r (by intro e; rw [e] at h2; simp at h2)
        refine ⟨(m.put (r.num 1).i64 (r.next 1).long, (r.next 1).nextL), ⟨by simp only; omega, ?_⟩, hlt, ?_, ?_⟩
        · rw [hd]
          have := decLoop_more (r.next 1).nextL.b.l.length (n - (r.next 1).nextL.b.l.length) (m.put (r.num 1).i64 (r.next 1).long) (r.next 1).nextL (Nat.le_refl _)
          rw [show (r.next 1).nextL.b.l.length + (n - (r.next 1).nextL.b.l.length) = n by omega] at this
          exact this.symm
        · and_intros <;> trivial
        · and_intros <;> first | trivial | exact .inl rfl
    · have h2 := of_decide_eq_false h2
      have hl : r.b.l = [] := List.eq_nil_of_length_eq_zero (by omega)
      have e := stop (by rw [hl]; simp)
      refine fork_intro (fun h3 => ?_) (fun h3 => fork_intro (fun h4 => ?_) (fun h4 => ?_))
      · rw [not_t h3, Bool.false_and] at e
        and_intros <;> first | trivial | exact Nat.zero_le _ | exact fin_none rfl e
      · rw [not_f h3, not_t h4, Bool.true_and] at e
        and_intros <;> first | trivial | exact Nat.zero_le _ | exact fin_none rfl e
      · rw [not_f h3, not_f h4, Bool.true_and] at e
        and_intros <;> first | trivial | exact Nat.zero_le _ | exact fin_some rfl e
    · have e := stop (by rw [not_f h]; rfl)
      refine fork_intro (fun h3 => ?_) (fun h3 => fork_intro (fun h4 => ?_) (fun h4 => ?_))
      · rw [not_t h3, Bool.false_and] at e
        and_intros <;> first | trivial | exact Nat.zero_le _ | exact fin_none rfl e
      · rw [not_f h3, not_t h4, Bool.true_and] at e
        and_intros <;> first | trivial | exact Nat.zero_le _ | exact fin_none rfl e
      · rw [not_f h3, not_f h4, Bool.true_and] at e
        and_intros <;> first | trivial | exact Nat.zero_le _ | exact fin_some rfl e
  · rintro r h1 ⟨⟨a, rfl, h2⟩, rfl⟩
    exact ⟨_, _, ⟨rfl, rfl⟩, Tell.tup ⟨msgD_tell _ _ h2, Tell.refl _, trivial⟩, TellH.refl _⟩
def e20 : SpE := ⟨true, ev1 byD (fun b => some (b.l.length ≤ 1099511627776)) fun b => .tup [.agg (orZ (decW b)).C, .bool (decW b).isSome]⟩
theorem ok20 : SpE.ok Try.prog 20 e20 := ev1_ok kBy (fun _ => rfl) (fun b h => fn20 b h)
end Go.Abs

namespace Go.Abs
open Go.Proofs
set_option maxRecDepth 100000

def cut32 (l : List UInt8) : List UInt8 := l.take ((if (32 : Int) < (l.length : Int) then 32 else (l.length : Int)).toNat)
def Msg.setR (m : Msg) (k : Int) (b : By) : Msg :=
  if k = 1 then { m with proto := numR b.l } else if k = 2 then { m with name := b.l } else if k = 3 then { m with a := Num.read (cut32 b.l) } else if k = 4 then { m with b := Num.read (cut32 b.l) }
  else if k = 5 then { m with salt := ⟨false, b.l⟩ } else if k = 6 then { m with sea := ⟨false, b.l⟩ } else if k = 7 then { m with tag := ⟨false, b.l⟩ } else if k = 8 then { m with tok := ⟨false, b.l⟩ } else if k = 9 then { m with rcd := ⟨false, b.l⟩ }
  else if k = 10 then { m with channel := numR b.l } else if k = 11 then { m with e := numR b.l } else m
set_option maxHeartbeats 8000000 in
theorem fn56 (m : Msg) (k : Int) (b : By) (hb : b.l.length ≤ 1099511627776) : ACalls Try.prog 56 [.agg m.C, .int k, b.A] [] (fun a h => a = .agg (m.setR k b).C ∧ h = []) := by
  refine ACalls.tell (K := fun a h => isMsg a (m.setR k b) ∧ h = []) ?_ ?_
  · refine run56 (Γ := G0 keep56 [(68, e68), (70, e70)]) (own := false) (kn := 0) (.cons ok68 in68 (.cons ok70 in70 .nil)) (Nat.le_of_ble_eq_true rfl) rfl (Nat.le_refl _) ?_
    dsimp only [c56, keep56, res56, Msg.C, e68, e70, By.eta, run, runOps, onER, doOp, noOp, ifB, onG, onGd, onB, onL, xfB, lookB, ↓fork_true, ↓fork_false, chkC, evc, vOnly, ev, evBin, evUn, evEq, evConv, evSlice, evApp, appSl, appMs, evCall, sfind, srcS, rdS, nilK, ctakeT0, eq1, eqs, shn, ngt, xv, xvs, xi, look, Go.Abs.put, trim, conj, both, argS, leafK, resv, one, one1, ofC, frzL, frzV, hasMs, hasMsL, hlen, hget, hset, hsnoc, htake, lget, ldrop, ltake, lset, lapp, lput, llen, lrep, cget, csub, cexp, exU8, exU32, exInt, cset, cput, capp, clen, toC, csubT, ctakeT, cdropT, celT, mulz, typed, ab?, ai?, au?, zeros, lay, lenS, offS, fulS, cutS, cutT, bnds, below, belowL, hbelow, sbelow, xfind, fits, eqS, eqH, eqO, loopK, sameS, sameH, SameL, Nat.beq, Nat.ble, Int.reduceToNat, Nat.reduceAdd, Nat.reduceMul, Nat.reduceSub, Int.reduceLT, Int.reduceLE, Int.reduceNeg, UInt64.reduceToNat, UInt32.reduceToNat, UInt8.reduceToNat, G0, GL, ev0, ev1, ev2, ev3, ev4, intD, u32D, u8D, boolD, strD, byD, numD, intsD, By.A, Num.C, sp0, s0f, objOf, peelB, startK, entryK, finB, allX, andE, GK, GKL, GR, onR, rfind, noR, fdShape, elT, allN, endR, retR, failK, rangeP, Nat.blt, Nat.succ, evP, l0D, l1D, l2D, frzI, frzR, ownF, frzC, frzA, frzJ, allFz, nestL]
    simp only [List.drop_zero, List.take_length]
    refine ⟨by split <;> omega, by first | rfl | trivial, by omega, ?_⟩
    refine fork_intro (fun h => ?_) (fun h1 => ?_)
    · obtain rfl : k = 1 := eq_of_beq h
      and_intros <;> first | trivial | rfl | omega
    refine fork_intro (fun h => ?_) (fun h2 => ?_)
    · obtain rfl : k = 2 := eq_of_beq h
      and_intros <;> first | trivial | rfl | omega
    refine fork_intro (fun h => ?_) (fun h3 => ?_)
    · obtain rfl : k = 3 := eq_of_beq h
      and_intros <;> first | trivial | rfl | omega
    refine fork_intro (fun h => ?_) (fun h4 => ?_)
    · obtain rfl : k = 4 := eq_of_beq h
      and_intros <;> first | trivial | rfl | omega
    refine fork_intro (fun h => ?_) (fun h5 => ?_)
    · obtain rfl : k = 5 := eq_of_beq h
      and_intros <;> first | trivial | rfl | omega
    refine fork_intro (fun h => ?_) (fun h6 => ?_)
    · obtain rfl : k = 6 := eq_of_beq h
      and_intros <;> first | trivial | rfl | omega
    refine fork_intro (fun h => ?_) (fun h7 => ?_)
    · obtain rfl : k = 7 := eq_of_beq h
      and_intros <;> first | trivial | rfl | omega
    refine fork_intro (fun h => ?_) (fun h8 => ?_)
    · obtain rfl : k = 8 := eq_of_beq h
      and_intros <;> first | trivial | rfl | omega
    refine fork_intro (fun h => ?_) (fun h9 => ?_)
    · obtain rfl : k = 9 := eq_of_beq h
      and_intros <;> first | trivial | rfl | omega
    refine fork_intro (fun h => ?_) (fun h10 => ?_)
    · obtain rfl : k = 10 := eq_of_beq h
      and_intros <;> first | trivial | rfl | omega
    refine fork_intro (fun h => ?_) (fun h11 => ?_)
    · obtain rfl : k = 11 := eq_of_beq h
      and_intros <;> first | trivial | rfl | omega
    simp only [beq_eq_false_iff_ne, ne_eq] at *
    and_intros <;> first | trivial | rfl | omega | skip
    have e : m.setR k b = m := by simp only [Msg.setR, *, if_false]
    rw [e]; rfl
  · rintro a h ⟨h1, rfl⟩
    exact ⟨_, _, ⟨rfl, rfl⟩, msgD_tell _ _ h1, trivial⟩
def e56 : SpE := ⟨true, ev3 msgD intD byD (fun _ _ b => some (b.l.length ≤ 1099511627776)) fun m k b => .agg (m.setR k b).C⟩
theorem ok56 : SpE.ok Try.prog 56 e56 := ev3_ok kMsg kInt kBy (fun _ _ _ => rfl) (fun m k b h => fn56 m k b h)
/-- The document's loop. -/
def decLoopR (b : By) : Nat → Msg → Nat → Msg
  | 0, m, _ => m
  | n + 1, m, a => match decide (a + 2 ≤ b.l.length) && decide (a + 2 + (b.l.getD (a + 1) 0).toNat ≤ b.l.length) with
    | true => decLoopR b n (m.setR ((b.l.getD a 0).toNat : Int) ⟨b.nil, (b.l.drop (a + 2)).take (b.l.getD (a + 1) 0).toNat⟩) (a + 2 + (b.l.getD (a + 1) 0).toNat)
    | false => m
def msgR (b : By) : Msg := { Msg.zero with kind := ((b.l.getD 2 0).toNat : Int) }
def decR (b : By) : Option Msg := match decide (b.l.length < 3) with
  | true => none
  | false => match (decLoopR b b.l.length (msgR b) 3).isR && ((decLoopR b b.l.length (msgR b) 3).outR.l == b.l) with
    | true => some (decLoopR b b.l.length (msgR b) 3)
    | false => none
theorem setR_name (m : Msg) (k : Int) (b : By) : (m.setR k b).name.length ≤ m.name.length ∨ (m.setR k b).name = b.l := by
  have key : ∀ (c : Prop) [Decidable c] (x y : Msg), (x.name.length ≤ m.name.length ∨ x.name = b.l) → (y.name.length ≤ m.name.length ∨ y.name = b.l) → ((if c then x else y).name.length ≤ m.name.length ∨ (if c then x else y).name = b.l) := fun c _ x y h1 h2 => by
    by_cases h : c
    · rw [if_pos h]; exact h1
    · rw [if_neg h]; exact h2
  unfold Msg.setR
  repeat' (first | exact .inr rfl | exact .inl (Nat.le_refl _) | apply key)
def L23 (b : By) : LI where
  X := Msg × Nat
  x0 := (msgR b, 3)
  pre x := x.1.name.length ≤ b.l.length ∧ 3 ≤ x.2 ∧ x.2 ≤ b.l.length ∧ decLoopR b (b.l.length - x.2) x.1 x.2 = decLoopR b (b.l.length - 3) (msgR b) 3
  inv x := ([(0, b.A), (2, .ptr 0 0 0), (3, .bool false), (4, .ptr 1 0 0), (5, .int x.2)], [⟨0, .agg Msg.zero.C, false⟩, ⟨0, .agg x.1.C, false⟩])
  mu x := b.l.length - x.2
  ren := false
set_option maxHeartbeats 4000000 in
theorem fn23 (b : By) (hb : b.l.length ≤ 1099511627776) : ACalls Try.prog 23 [b.A] [] (fun r h => r = .tup [.agg (orZ (decR b)).C, .bool (decR b).isSome] ∧ h = []) := by
  refine ACalls.tell (K := fun r h => (∃ a, r = .tup [a, .bool (decR b).isSome] ∧ isMsg a (orZ (decR b))) ∧ h = []) ?_ ?_
  · refine run23 (Γ := GL keep23 [(18, e18), (56, e56)] fun _ => L23 b) (own := false) (kn := 0) (.cons ok18 in18 (.cons ok56 in56 .nil)) (Nat.le_of_ble_eq_true rfl) rfl (Nat.le_refl _) ?_
    dsimp only [c23, keep23, res23, L23, Msg.C, msgD, e18, e56, Num.eta, By.eta, Msg.eta, run, runOps, onER, doOp, noOp, ifB, onG, onGd, onB, onL, xfB, lookB, ↓fork_true, ↓fork_false, chkC, evc, vOnly, ev, evBin, evUn, evEq, evConv, evSlice, evApp, appSl, appMs, evCall, sfind, srcS, rdS, nilK, ctakeT0, eq1, eqs, shn, ngt, xv, xvs, xi, look, Go.Abs.put, trim, conj, both, argS, leafK, resv, one, one1, ofC, frzL, frzV, hasMs, hasMsL, hlen, hget, hset, hsnoc, htake, lget, ldrop, ltake, lset, lapp, lput, llen, lrep, cget, csub, cexp, exU8, exU32, exInt, cset, cput, capp, clen, toC, csubT, ctakeT, cdropT, celT, mulz, typed, ab?, ai?, au?, zeros, lay, lenS, offS, fulS, cutS, cutT, bnds, below, belowL, hbelow, sbelow, xfind, fits, eqS, eqH, eqO, loopK, sameS, sameH, SameL, Nat.beq, Nat.ble, Int.reduceToNat, Nat.reduceAdd, Nat.reduceMul, Nat.reduceSub, Int.reduceLT, Int.reduceLE, Int.reduceNeg, UInt64.reduceToNat, UInt32.reduceToNat, UInt8.reduceToNat, G0, GL, ev0, ev1, ev2, ev3, ev4, intD, u32D, u8D, boolD, strD, byD, numD, intsD, By.A, Num.C, sp0, s0f, objOf, peelB, startK, entryK, finB, allX, andE, GK, GKL, GR, onR, rfind, noR, fdShape, elT, allN, endR, retR, failK, rangeP, Nat.blt, Nat.succ, evP, l0D, l1D, l2D, frzI, frzR, ownF, frzC, frzA, frzJ, allFz, nestL]
    have h0 : ∀ {d : Option Msg}, decR b = d → decR b = d := fun h => h
    refine fork_intro (fun h => ?_) (fun h => ?_)
    · have h := of_decide_eq_true h
      have e : decR b = none := by rw [decR, decide_eq_true (show b.l.length < 3 by omega)]
      and_intros <;> first | trivial | rfl | exact Nat.zero_le _ | exact fin_none rfl e
    have h := of_decide_eq_false h
    have e0 : decR b = (match (decLoopR b b.l.length (msgR b) 3).isR && ((decLoopR b b.l.length (msgR b) 3).outR.l == b.l) with
        | true => some (decLoopR b b.l.length (msgR b) 3) | false => none) := by rw [decR, decide_eq_false (show ¬ b.l.length < 3 by omega)]
    refine ⟨by omega, by simp, rfl, ⟨⟨?_, ?_⟩, ?_⟩, fun x hx => ?_⟩
    · and_intros <;> first | rfl | trivial
    · refine ⟨⟨rfl, rfl, .tell (msgD_tellC _ Msg.zero rfl)⟩, ⟨rfl, rfl, .tell (msgD_tellC _ (msgR b) rfl)⟩, trivial⟩
    · exact ⟨Nat.zero_le _, by omega, by omega, rfl⟩
    obtain ⟨m, a⟩ := x
    obtain ⟨hx1, hx2, hx3, hx4⟩ := hx
    simp only at hx1 hx2 hx3 hx4 ⊢
    have e1 : w64 ((a : Int) + 1) = ((a + 1 : Nat) : Int) := by rw [w64_in (by omega)]; omega
    have e2 : w64 ((a : Int) + 2) = ((a + 2 : Nat) : Int) := by rw [w64_in (by omega)]; omega
    have hL : (b.l.getD (a + 1) 0).toNat < 256 := (b.l.getD (a + 1) 0).toNat_lt
    have e3 : w64 (((a + 2 : Nat) : Int) + ((b.l.getD (a + 1) 0).toNat : Int)) = ((a + 2 + (b.l.getD (a + 1) 0).toNat : Nat) : Int) := by rw [w64_in (by omega)]; omega
    have sgl : ∀ x : UInt8, [x].getD 0 0 = x := fun _ => rfl
    simp only [e1, e2, Int.toNat_natCast, sgl, e3, Nat.add_sub_cancel_left]
    have hnext : ∀ c, (decide (a + 2 ≤ b.l.length) && decide (a + 2 + (b.l.getD (a + 1) 0).toNat ≤ b.l.length)) = c → a < b.l.length → decLoopR b (b.l.length - a) m a = (match c with
        | true => decLoopR b (b.l.length - a - 1) (m.setR ((b.l.getD a 0).toNat : Int) ⟨b.nil, (b.l.drop (a + 2)).take (b.l.getD (a + 1) 0).toNat⟩) (a + 2 + (b.l.getD (a + 1) 0).toNat)
        | false => m) := fun c hc hlt => by
      rw [show b.l.length - a = (b.l.length - a - 1) + 1 by omega, decLoopR, hc]
      rfl
    have more : ∀ (n k : Nat) (m : Msg) (a : Nat), b.l.length - a ≤ n → decLoopR b (n + k) m a = decLoopR b n m a := fun n => by
      induction n with
      | zero =>
        intro k m a h
        cases k with
        | zero => rfl
        | succ k =>
          have hf : decide (a + 2 ≤ b.l.length) = false := decide_eq_false (by omega)
          rw [Nat.zero_add]; simp only [decLoopR, hf, Bool.false_and]
      | succ n ih =>
        intro k m a h
        rw [show n + 1 + k = n + k + 1 by omega]
        simp only [decLoopR]
        split
        · exact ih k _ _ (by omega)
        · rfl
    have stop : decLoopR b (b.l.length - a) m a = m → decR b = (match m.isR && (m.outR.l == b.l) with | true => some m | false => none) := fun h => by
      have h3 : decLoopR b b.l.length (msgR b) 3 = m := by
        have := more (b.l.length - 3) 3 (msgR b) 3 (Nat.le_refl _)
        rw [show b.l.length - 3 + 3 = b.l.length by omega] at this
        rw [this, ← hx4, h]
      rw [e0, h3]
    refine fork_intro (fun h1 => ⟨?_, ?_, fork_intro (fun h2 => ?_) (fun h2 => ?_)⟩) (fun h1 => ?_)
    · have h1 := of_decide_eq_true h1; omega
    · simp
    · have h1 := of_decide_eq_true h1
      have h2 := of_decide_eq_true h2
      refine ⟨by omega, by simp, by omega, by simp, by omega, by rw [List.length_take]; omega, trivial, (m.setR ((b.l.getD a 0).toNat : Int) ⟨b.nil, (b.l.drop (a + 2)).take (b.l.getD (a + 1) 0).toNat⟩, a + 2 + (b.l.getD (a + 1) 0).toNat), ⟨?_, by simp only; omega, by simp only; omega, ?_⟩, by simp only; omega, ?_, ?_⟩
      rotate_left
      · have := hnext true (by rw [decide_eq_true (show a + 2 ≤ b.l.length by omega), decide_eq_true (show a + 2 + (b.l.getD (a + 1) 0).toNat ≤ b.l.length by omega)]; rfl) (by omega)
        rw [← hx4, this]
        have hm := more (b.l.length - (a + 2 + (b.l.getD (a + 1) 0).toNat)) (b.l.length - a - 1 - (b.l.length - (a + 2 + (b.l.getD (a + 1) 0).toNat))) (m.setR ((b.l.getD a 0).toNat : Int) ⟨b.nil, (b.l.drop (a + 2)).take (b.l.getD (a + 1) 0).toNat⟩) (a + 2 + (b.l.getD (a + 1) 0).toNat) (Nat.le_refl _)
        rw [show b.l.length - (a + 2 + (b.l.getD (a + 1) 0).toNat) + (b.l.length - a - 1 - (b.l.length - (a + 2 + (b.l.getD (a + 1) 0).toNat))) = b.l.length - a - 1 by omega] at hm
        exact hm.symm
      · and_intros <;> first | rfl | trivial
      · and_intros <;> first | rfl | trivial | exact .inl rfl
      · rcases setR_name m ((b.l.getD a 0).toNat : Int) ⟨b.nil, (b.l.drop (a + 2)).take (b.l.getD (a + 1) 0).toNat⟩ with hh | hh
        · exact Nat.le_trans hh hx1
        · show (m.setR _ _).name.length ≤ _
          rw [hh, List.length_take, List.length_drop]; omega
    · have h1 := of_decide_eq_true h1
      have h2 := of_decide_eq_false h2
      have e := stop (hnext false (by rw [decide_eq_false (show ¬ a + 2 + (b.l.getD (a + 1) 0).toNat ≤ b.l.length by omega), Bool.and_false]) (by omega))
      refine ⟨by omega, fork_intro (fun h3 => ?_) (fun h3 => fork_intro (fun h4 => ?_) (fun h4 => ?_))⟩
      · rw [not_t h3, Bool.false_and] at e
        and_intros <;> first | trivial | exact Nat.zero_le _ | exact fin_none rfl e
      · rw [not_f h3, not_t h4, Bool.true_and] at e
        and_intros <;> first | trivial | exact Nat.zero_le _ | exact fin_none rfl e
      · rw [not_f h3, not_f h4, Bool.true_and] at e
        and_intros <;> first | trivial | exact Nat.zero_le _ | exact fin_some rfl e
    · have h1 := of_decide_eq_false h1
      have e := stop (by
        rcases Nat.lt_or_ge a b.l.length with hlt | hge
        · exact hnext false (by rw [decide_eq_false (show ¬ a + 2 ≤ b.l.length by omega), Bool.false_and]) hlt
        · rw [show b.l.length - a = 0 by omega]; rfl)
      refine ⟨by omega, fork_intro (fun h3 => ?_) (fun h3 => fork_intro (fun h4 => ?_) (fun h4 => ?_))⟩
      · rw [not_t h3, Bool.false_and] at e
        and_intros <;> first | trivial | exact Nat.zero_le _ | exact fin_none rfl e
      · rw [not_f h3, not_t h4, Bool.true_and] at e
        and_intros <;> first | trivial | exact Nat.zero_le _ | exact fin_none rfl e
      · rw [not_f h3, not_f h4, Bool.true_and] at e
        and_intros <;> first | trivial | exact Nat.zero_le _ | exact fin_some rfl e
  · rintro r h1 ⟨⟨a, rfl, h2⟩, rfl⟩
    exact ⟨_, _, ⟨rfl, rfl⟩, Tell.tup ⟨msgD_tell _ _ h2, Tell.refl _, trivial⟩, TellH.refl _⟩
def e23 : SpE := ⟨true, ev1 byD (fun b => some (b.l.length ≤ 1099511627776)) fun b => .tup [.agg (orZ (decR b)).C, .bool (decR b).isSome]⟩
theorem ok23 : SpE.ok Try.prog 23 e23 := ev1_ok kBy (fun _ => rfl) (fun b h => fn23 b h)
end Go.Abs

namespace Go.Abs
open Go.Proofs
set_option maxRecDepth 100000

structure Sw where
  b : By
  n : Int
  bad : Bool
def Sw.A (s : Sw) : AV := .agg [s.b.A, .int s.n, .bool s.bad]
def swD : AV → Option Sw
  | .agg [x, .int n, .bool bad] => match byD x with | some b => some ⟨b, n, bad⟩ | none => none
  | _ => none
theorem swD_tellC (a : AV) (r : Sw) (h : swD a = some r) : TellC a r.A := by
  unfold swD at h
  split at h
  · split at h
    · rename_i hb; cases h; exact TellC.agg ⟨byD_tell _ _ hb, Tell.refl _, Tell.refl _, trivial⟩
    · cases h
  · cases h
theorem swD_tell (a : AV) (r : Sw) (h : swD a = some r) : Tell a r.A := by
  unfold swD at h
  split at h
  · split at h
    · rename_i hb; cases h; exact Tell.agg ⟨byD_tell _ _ hb, Tell.refl _, Tell.refl _, trivial⟩
    · cases h
  · cases h
def kSw : Kd Sw := ⟨swD, Sw.A, swD_tell, fun _ => rfl⟩
theorem Sw.eta (r : Sw) : Sw.mk r.b r.n r.bad = r := rfl
def isSw (c : AV) (s : Sw) : Prop := swD c = some s
def Sw.new : Sw := ⟨⟨true, []⟩, 0, false⟩

/-! ### New -/
theorem fn26 : ACalls Try.prog 26 [] [] (fun r h => r = .ptr 0 0 0 ∧ h = [⟨0, Sw.new.A, false⟩]) := by
  refine ACalls.tell (K := fun r h => r = .ptr 0 0 0 ∧ ∃ c, h = [⟨0, c, false⟩] ∧ isSw c Sw.new) ?_ ?_
  · refine run26 (Γ := G0 keep26 []) (own := false) (kn := 1) .nil (Nat.le_of_ble_eq_true rfl) rfl (Nat.zero_le _) ?_
    dsimp only [c26, keep26, res26, run, runOps, onER, doOp, noOp, ifB, onG, onGd, onB, onL, xfB, lookB, ↓fork_true, ↓fork_false, chkC, evc, vOnly, ev, evBin, evUn, evEq, evConv, evSlice, evApp, appSl, appMs, evCall, sfind, srcS, rdS, nilK, ctakeT0, eq1, eqs, shn, ngt, xv, xvs, xi, look, Go.Abs.put, trim, conj, both, argS, leafK, resv, one, one1, ofC, frzL, frzV, hasMs, hasMsL, hlen, hget, hset, hsnoc, htake, lget, ldrop, ltake, lset, lapp, lput, llen, lrep, cget, csub, cexp, exU8, exU32, exInt, cset, cput, capp, clen, toC, csubT, ctakeT, cdropT, celT, mulz, typed, ab?, ai?, au?, zeros, lay, lenS, offS, fulS, cutS, cutT, bnds, below, belowL, hbelow, sbelow, xfind, fits, eqS, eqH, eqO, loopK, sameS, sameH, SameL, Nat.beq, Nat.ble, Int.reduceToNat, Nat.reduceAdd, Nat.reduceMul, Nat.reduceSub, Int.reduceLT, Int.reduceLE, Int.reduceNeg, UInt64.reduceToNat, UInt32.reduceToNat, UInt8.reduceToNat, G0, GL, ev0, ev1, ev2, ev3, ev4, intD, u32D, u8D, boolD, strD, byD, numD, intsD, By.A, Num.C, sp0, s0f, objOf, peelB, startK, entryK, finB, allX, andE, GK, GKL, GR, onR, rfind, noR, fdShape, elT, allN, endR, retR, failK, rangeP, Nat.blt, Nat.succ, evP, l0D, l1D, l2D, frzI, frzR, ownF, frzC, frzA, frzJ, allFz, nestL]
    exact ⟨rfl, _, rfl, rfl⟩
  · rintro a h ⟨h1, c, rfl, h2⟩
    exact ⟨_, _, ⟨h1, rfl⟩, Tell.refl _, ⟨rfl, rfl, swD_tellC _ _ h2⟩, trivial⟩
theorem fn27 : ACalls Try.prog 27 [] [] (fun r h => r = .ptr 0 0 0 ∧ h = [⟨0, Sw.new.A, false⟩]) := by
  refine ACalls.tell (K := fun r h => r = .ptr 0 0 0 ∧ ∃ c, h = [⟨0, c, false⟩] ∧ isSw c Sw.new) ?_ ?_
  · refine run27 (Γ := G0 keep27 []) (own := false) (kn := 1) .nil (Nat.le_of_ble_eq_true rfl) rfl (Nat.zero_le _) ?_
    dsimp only [c27, keep27, res27, run, runOps, onER, doOp, noOp, ifB, onG, onGd, onB, onL, xfB, lookB, ↓fork_true, ↓fork_false, chkC, evc, vOnly, ev, evBin, evUn, evEq, evConv, evSlice, evApp, appSl, appMs, evCall, sfind, srcS, rdS, nilK, ctakeT0, eq1, eqs, shn, ngt, xv, xvs, xi, look, Go.Abs.put, trim, conj, both, argS, leafK, resv, one, one1, ofC, frzL, frzV, hasMs, hasMsL, hlen, hget, hset, hsnoc, htake, lget, ldrop, ltake, lset, lapp, lput, llen, lrep, cget, csub, cexp, exU8, exU32, exInt, cset, cput, capp, clen, toC, csubT, ctakeT, cdropT, celT, mulz, typed, ab?, ai?, au?, zeros, lay, lenS, offS, fulS, cutS, cutT, bnds, below, belowL, hbelow, sbelow, xfind, fits, eqS, eqH, eqO, loopK, sameS, sameH, SameL, Nat.beq, Nat.ble, Int.reduceToNat, Nat.reduceAdd, Nat.reduceMul, Nat.reduceSub, Int.reduceLT, Int.reduceLE, Int.reduceNeg, UInt64.reduceToNat, UInt32.reduceToNat, UInt8.reduceToNat, G0, GL, ev0, ev1, ev2, ev3, ev4, intD, u32D, u8D, boolD, strD, byD, numD, intsD, By.A, Num.C, sp0, s0f, objOf, peelB, startK, entryK, finB, allX, andE, GK, GKL, GR, onR, rfind, noR, fdShape, elT, allN, endR, retR, failK, rangeP, Nat.blt, Nat.succ, evP, l0D, l1D, l2D, frzI, frzR, ownF, frzC, frzA, frzJ, allFz, nestL]
    exact ⟨rfl, _, rfl, rfl⟩
  · rintro a h ⟨h1, c, rfl, h2⟩
    exact ⟨_, _, ⟨h1, rfl⟩, Tell.refl _, ⟨rfl, rfl, swD_tellC _ _ h2⟩, trivial⟩
def eNew : SpE := ⟨true, fun xs h => match xs with
  | [] => .e none (.ptr (hlen h) 0 0) (hsnoc h ⟨0, .agg [By.A ⟨true, []⟩, .int 0, .bool false], false⟩)
  | _ => .no⟩
theorem okNew {g : Nat} (hc : ACalls Try.prog g [] [] (fun r h => r = .ptr 0 0 0 ∧ h = [⟨0, Sw.new.A, false⟩])) : SpE.ok Try.prog g eNew := by
  intro args h
  unfold eNew
  simp only
  split
  · rename_i C A he; split at he <;> cases he
  · rename_i C A h1 he
    split at he
    · cases he
      intro _
      have := acalls_more (P := Try.prog) (f := g) (args := []) rfl (by intro o ho; simp at ho; subst ho; rfl) hc h
      rw [hlen_eq, hsnoc_eq]
      simp only [ren, rho, List.getElem?_nil, List.length_nil, Nat.sub_zero, Nat.add_zero] at this
      exact this
    · cases he
  · rename_i C h1 he; split at he <;> cases he
  · trivial
/-! ### Bad -/
theorem fn32 (s : Sw) : ACalls Try.prog 32 [.ptr 0 0 0] [⟨0, s.A, false⟩] (fun a h => a = .bool s.bad ∧ h = [⟨0, s.A, false⟩]) := by
  refine run32 (Γ := GK 1 keep32 []) (own := false) (kn := 1) .nil (Nat.le_of_ble_eq_true rfl) rfl (Nat.le_refl _) ?_
  dsimp only [c32, keep32, res32, Sw.A, run, runOps, onER, doOp, noOp, ifB, onG, onGd, onB, onL, xfB, lookB, ↓fork_true, ↓fork_false, chkC, evc, vOnly, ev, evBin, evUn, evEq, evConv, evSlice, evApp, appSl, appMs, evCall, sfind, srcS, rdS, nilK, ctakeT0, eq1, eqs, shn, ngt, xv, xvs, xi, look, Go.Abs.put, trim, conj, both, argS, leafK, resv, one, one1, ofC, frzL, frzV, hasMs, hasMsL, hlen, hget, hset, hsnoc, htake, lget, ldrop, ltake, lset, lapp, lput, llen, lrep, cget, csub, cexp, exU8, exU32, exInt, cset, cput, capp, clen, toC, csubT, ctakeT, cdropT, celT, mulz, typed, ab?, ai?, au?, zeros, lay, lenS, offS, fulS, cutS, cutT, bnds, below, belowL, hbelow, sbelow, xfind, fits, eqS, eqH, eqO, loopK, sameS, sameH, SameL, Nat.beq, Nat.ble, Int.reduceToNat, Nat.reduceAdd, Nat.reduceMul, Nat.reduceSub, Int.reduceLT, Int.reduceLE, Int.reduceNeg, UInt64.reduceToNat, UInt32.reduceToNat, UInt8.reduceToNat, G0, GL, ev0, ev1, ev2, ev3, ev4, intD, u32D, u8D, boolD, strD, byD, numD, intsD, By.A, Num.C, sp0, s0f, objOf, peelB, startK, entryK, finB, allX, andE, GK, GKL, GR, onR, rfind, noR, fdShape, elT, allN, endR, retR, failK, rangeP, Nat.blt, Nat.succ, evP, l0D, l1D, l2D, frzI, frzR, ownF, frzC, frzA, frzJ, allFz, nestL]
  and_intros <;> first | trivial | rfl
theorem fn33 (s : Sw) : ACalls Try.prog 33 [.ptr 0 0 0] [⟨0, s.A, false⟩] (fun a h => a = .bool s.bad ∧ h = [⟨0, s.A, false⟩]) := by
  refine run33 (Γ := GK 1 keep33 []) (own := false) (kn := 1) .nil (Nat.le_of_ble_eq_true rfl) rfl (Nat.le_refl _) ?_
  dsimp only [c33, keep33, res33, Sw.A, run, runOps, onER, doOp, noOp, ifB, onG, onGd, onB, onL, xfB, lookB, ↓fork_true, ↓fork_false, chkC, evc, vOnly, ev, evBin, evUn, evEq, evConv, evSlice, evApp, appSl, appMs, evCall, sfind, srcS, rdS, nilK, ctakeT0, eq1, eqs, shn, ngt, xv, xvs, xi, look, Go.Abs.put, trim, conj, both, argS, leafK, resv, one, one1, ofC, frzL, frzV, hasMs, hasMsL, hlen, hget, hset, hsnoc, htake, lget, ldrop, ltake, lset, lapp, lput, llen, lrep, cget, csub, cexp, exU8, exU32, exInt, cset, cput, capp, clen, toC, csubT, ctakeT, cdropT, celT, mulz, typed, ab?, ai?, au?, zeros, lay, lenS, offS, fulS, cutS, cutT, bnds, below, belowL, hbelow, sbelow, xfind, fits, eqS, eqH, eqO, loopK, sameS, sameH, SameL, Nat.beq, Nat.ble, Int.reduceToNat, Nat.reduceAdd, Nat.reduceMul, Nat.reduceSub, Int.reduceLT, Int.reduceLE, Int.reduceNeg, UInt64.reduceToNat, UInt32.reduceToNat, UInt8.reduceToNat, G0, GL, ev0, ev1, ev2, ev3, ev4, intD, u32D, u8D, boolD, strD, byD, numD, intsD, By.A, Num.C, sp0, s0f, objOf, peelB, startK, entryK, finB, allX, andE, GK, GKL, GR, onR, rfind, noR, fdShape, elT, allN, endR, retR, failK, rangeP, Nat.blt, Nat.succ, evP, l0D, l1D, l2D, frzI, frzR, ownF, frzC, frzA, frzJ, allFz, nestL]
  and_intros <;> first | trivial | rfl
def eBad : SpE := ⟨true, evP swD Sw.A l0D (fun _ _ => none) (fun s _ => .bool s.bad) (fun s _ => s)⟩
theorem ok32 : SpE.ok Try.prog 32 eBad := evP_ok kSw swD_tellC kl0 (fun _ _ => rfl) (fun s _ _ => fn32 s)
theorem ok33 : SpE.ok Try.prog 33 eBad := evP_ok kSw swD_tellC kl0 (fun _ _ => rfl) (fun s _ _ => fn33 s)

/-! ### Write -/
def Sw.over (s : Sw) : Bool := s.bad || decide (100000 ≤ s.n)
def Sw.wrote (s : Sw) (b : By) : Sw := match s.over with | true => { s with bad := true } | false => ⟨catB s.b b, w64 (s.n + b.l.length), false⟩
theorem fn28 (s : Sw) (b : By) (hb : s.b.l.length + b.l.length ≤ 1099511627776) : ACalls Try.prog 28 [.ptr 0 0 0, b.A] [⟨0, s.A, false⟩] (fun a h => a = .bool (!s.over) ∧ h = [⟨0, (s.wrote b).A, false⟩]) := by
  refine ACalls.tell (K := fun r h => r = .bool (!s.over) ∧ ∃ c, h = [⟨0, c, false⟩] ∧ isSw c (s.wrote b)) ?_ ?_
  · refine run28 (Γ := GK 1 keep28 [(45, e45)]) (own := false) (kn := 1) (.cons ok45 in45 .nil) (Nat.le_of_ble_eq_true rfl) rfl (Nat.le_refl _) ?_
    dsimp only [c28, keep28, res28, Sw.A, e45, By.eta, run, runOps, onER, doOp, noOp, ifB, onG, onGd, onB, onL, xfB, lookB, ↓fork_true, ↓fork_false, chkC, evc, vOnly, ev, evBin, evUn, evEq, evConv, evSlice, evApp, appSl, appMs, evCall, sfind, srcS, rdS, nilK, ctakeT0, eq1, eqs, shn, ngt, xv, xvs, xi, look, Go.Abs.put, trim, conj, both, argS, leafK, resv, one, one1, ofC, frzL, frzV, hasMs, hasMsL, hlen, hget, hset, hsnoc, htake, lget, ldrop, ltake, lset, lapp, lput, llen, lrep, cget, csub, cexp, exU8, exU32, exInt, cset, cput, capp, clen, toC, csubT, ctakeT, cdropT, celT, mulz, typed, ab?, ai?, au?, zeros, lay, lenS, offS, fulS, cutS, cutT, bnds, below, belowL, hbelow, sbelow, xfind, fits, eqS, eqH, eqO, loopK, sameS, sameH, SameL, Nat.beq, Nat.ble, Int.reduceToNat, Nat.reduceAdd, Nat.reduceMul, Nat.reduceSub, Int.reduceLT, Int.reduceLE, Int.reduceNeg, UInt64.reduceToNat, UInt32.reduceToNat, UInt8.reduceToNat, G0, GL, ev0, ev1, ev2, ev3, ev4, intD, u32D, u8D, boolD, strD, byD, numD, intsD, By.A, Num.C, sp0, s0f, objOf, peelB, startK, entryK, finB, allX, andE, GK, GKL, GR, onR, rfind, noR, fdShape, elT, allN, endR, retR, failK, rangeP, Nat.blt, Nat.succ, evP, l0D, l1D, l2D, frzI, frzR, ownF, frzC, frzA, frzJ, allFz, nestL]
    have bad : s.over = true → (AV.bool false = AV.bool !s.over ∧ ∃ c, ([⟨0, AV.agg [AV.sl s.b.nil s.b.l.length 1 (AV.ab s.b.l) false, AV.int s.n, AV.bool true], false⟩] : List AO) = [⟨0, c, false⟩] ∧ isSw c (s.wrote b)) := fun h =>
      ⟨by rw [h]; rfl, _, rfl, by rw [Sw.wrote, h]; rfl⟩
    refine fork_intro (fun h => bad (by rw [Sw.over, h]; rfl)) (fun h => fork_intro (fun h2 => ?_) (fun h2 => ?_))
    · rw [h2]; exact bad (by rw [Sw.over, h2, Bool.or_true])
    · have ho : s.over = false := by rw [Sw.over, h, h2]; rfl
      refine ⟨hb, by rw [ho]; rfl, _, rfl, ?_⟩
      rw [h2, Sw.wrote, ho]; rfl
  · rintro a h ⟨h1, c, rfl, h2⟩
    exact ⟨_, _, ⟨h1, rfl⟩, Tell.refl _, ⟨rfl, rfl, swD_tellC _ _ h2⟩, trivial⟩
def e28 : SpE := ⟨true, evP swD Sw.A (l1D byD) (fun s b => some (s.b.l.length + b.l.length ≤ 1099511627776)) (fun s _ => .bool (!s.over)) (fun s b => s.wrote b)⟩
theorem ok28 : SpE.ok Try.prog 28 e28 := evP_ok kSw swD_tellC (kl1 kBy) (fun _ _ => rfl) (fun s b h => fn28 s b h)
def Sw.wroteR (s : Sw) (b : By) : Sw := match s.over with | true => { s with bad := true } | false => ⟨⟨false, s.b.l ++ b.l⟩, w64 (s.n + b.l.length), s.bad⟩
set_option maxHeartbeats 1000000 in
theorem fn29 (s : Sw) (b : By) (hb : s.b.l.length + b.l.length ≤ 1099511627776) : ACalls Try.prog 29 [.ptr 0 0 0, b.A] [⟨0, s.A, false⟩] (fun a h => a = .bool (!s.over) ∧ h = [⟨0, (s.wroteR b).A, false⟩]) := by
  refine ACalls.tell (K := fun r h => r = .bool (!s.over) ∧ ∃ c, h = [⟨0, c, false⟩] ∧ isSw c (s.wroteR b)) ?_ ?_
  · refine run29 (Γ := GK 1 keep29 []) (own := false) (kn := 1) .nil (Nat.le_of_ble_eq_true rfl) rfl (Nat.le_refl _) ?_
    dsimp only [c29, keep29, res29, Sw.A, By.eta, run, runOps, onER, doOp, noOp, ifB, onG, onGd, onB, onL, xfB, lookB, ↓fork_true, ↓fork_false, chkC, evc, vOnly, ev, evBin, evUn, evEq, evConv, evSlice, evApp, appSl, appMs, evCall, sfind, srcS, rdS, nilK, ctakeT0, eq1, eqs, shn, ngt, xv, xvs, xi, look, Go.Abs.put, trim, conj, both, argS, leafK, resv, one, one1, ofC, frzL, frzV, hasMs, hasMsL, hlen, hget, hset, hsnoc, htake, lget, ldrop, ltake, lset, lapp, lput, llen, lrep, cget, csub, cexp, exU8, exU32, exInt, cset, cput, capp, clen, toC, csubT, ctakeT, cdropT, celT, mulz, typed, ab?, ai?, au?, zeros, lay, lenS, offS, fulS, cutS, cutT, bnds, below, belowL, hbelow, sbelow, xfind, fits, eqS, eqH, eqO, loopK, sameS, sameH, SameL, Nat.beq, Nat.ble, Int.reduceToNat, Nat.reduceAdd, Nat.reduceMul, Nat.reduceSub, Int.reduceLT, Int.reduceLE, Int.reduceNeg, UInt64.reduceToNat, UInt32.reduceToNat, UInt8.reduceToNat, G0, GL, ev0, ev1, ev2, ev3, ev4, intD, u32D, u8D, boolD, strD, byD, numD, intsD, By.A, Num.C, sp0, s0f, objOf, peelB, startK, entryK, finB, allX, andE, GK, GKL, GR, onR, rfind, noR, fdShape, elT, allN, endR, retR, failK, rangeP, Nat.blt, Nat.succ, evP, l0D, l1D, l2D, frzI, frzR, ownF, frzC, frzA, frzJ, allFz, nestL]
    have bad : s.over = true → (AV.bool false = AV.bool !s.over ∧ ∃ c, ([⟨0, AV.agg [AV.sl s.b.nil s.b.l.length 1 (AV.ab s.b.l) false, AV.int s.n, AV.bool true], false⟩] : List AO) = [⟨0, c, false⟩] ∧ isSw c (s.wroteR b)) := fun h =>
      ⟨by rw [h]; rfl, _, rfl, by rw [Sw.wroteR, h]; rfl⟩
    refine fork_intro (fun h => bad (by rw [Sw.over, h]; rfl)) (fun h => fork_intro (fun h2 => ?_) (fun h2 => ?_))
    · exact bad (by rw [Sw.over, h2, Bool.or_true])
    · have ho : s.over = false := by rw [Sw.over, h, h2]; rfl
      have e : s.b.l.take (s.b.l.length * s.b.l.length) = s.b.l := take_all (by
        rcases Nat.eq_zero_or_pos s.b.l.length with h | h
        · exact .inr (List.eq_nil_of_length_eq_zero h)
        · exact .inl (by omega))
      rw [e, List.drop_zero, ← List.length_append, List.take_length, List.length_append]
      refine ⟨by omega, ⟨rfl, by omega⟩, by omega, rfl, rfl, by omega, by rw [ho]; rfl, _, rfl, ?_⟩
      rw [Sw.wroteR, ho, h]; rfl
  · rintro a h ⟨h1, c, rfl, h2⟩
    exact ⟨_, _, ⟨h1, rfl⟩, Tell.refl _, ⟨rfl, rfl, swD_tellC _ _ h2⟩, trivial⟩

/-! ### Next -/
theorem ior_bytes (x y : UInt8) : ior (w64 ((x.toNat : Int) * 2 ^ min 8 64)) (y.toNat : Int) = (x.toNat : Int) * 256 + y.toNat := by
  have hx : x.toNat < 256 := x.toNat_lt
  have hy : y.toNat < 256 := y.toNat_lt
  have e0 : w64 ((x.toNat : Int) * 2 ^ min 8 64) = ((x.toNat * 256 : Nat) : Int) := by
    rw [show min 8 64 = 8 from rfl, w64_in (by omega)]; omega
  have e : (BitVec.ofInt 64 ((x.toNat * 256 : Nat) : Int) ||| BitVec.ofInt 64 (y.toNat : Int)).toNat = x.toNat * 256 + y.toNat := by
    have := Nat.two_pow_add_eq_or_of_lt (i := 8) hy x.toNat
    rw [BitVec.toNat_or, BitVec.ofInt_natCast, BitVec.ofInt_natCast, BitVec.toNat_ofNat, BitVec.toNat_ofNat, Nat.mod_eq_of_lt (by omega), Nat.mod_eq_of_lt (by omega), Nat.mul_comm, show 256 = 2 ^ 8 from rfl, ← this]
  rw [e0, ior, e, wr64 (by omega)]; omega
/-- How long a message is, by its first two bytes. -/
def Sw.size (s : Sw) : Nat := 2 + ((s.b.l.getD 0 0).toNat * 256 + (s.b.l.getD 1 0).toNat)
/-- What Next does: which way (0: nothing; 1: it is bad; 2: a message is tried). -/
def Sw.way (s : Sw) : Nat := if s.bad = true ∨ s.b.l.length < 2 then 0 else if 202 < s.size then 1 else if s.b.l.length < s.size then 0 else 2
def Sw.head (s : Sw) : By := ⟨s.b.nil, s.b.l.take s.size⟩
def Sw.rest (s : Sw) : By := ⟨s.b.nil, s.b.l.drop s.size⟩
def Sw.told (d : By → Option Msg) (s : Sw) : Option Msg := if s.way = 2 then d s.head else none
def Sw.nextW (d : By → Option Msg) (s : Sw) : Sw := if s.way = 0 then s else if s.way = 1 then { s with bad := true } else ⟨s.rest, s.n, !(d s.head).isSome⟩
def Sw.nextR (d : By → Option Msg) (s : Sw) : Sw := if s.way = 0 then s else if s.way = 1 then { s with bad := true } else ⟨match (d s.head).isSome with | true => s.rest | false => s.b, s.n, !(d s.head).isSome⟩
def eDec (d : By → Option Msg) : SpE := ⟨true, ev1 byD (fun b => some (b.l.length ≤ 1099511627776)) fun b => .tup [.agg (orZ (d b)).C, .bool (d b).isSome]⟩
theorem w64_size (x y : UInt8) : w64 (2 + ((x.toNat : Int) * 256 + y.toNat)) = ((2 + (x.toNat * 256 + y.toNat) : Nat) : Int) := by
  have hx : x.toNat < 256 := x.toNat_lt
  have hy : y.toNat < 256 := y.toNat_lt
  rw [w64_in (by omega)]; omega
/-- A message of nothing, as code lays it. -/
def zeroA : AV := .agg [.int 0, .int 0, .int 0, .int 0, .str [], .u32 0, .u32 0, .u32 0, .u32 0, .u32 0, .u32 0, .u32 0, .u32 0, .u32 0, .u32 0, .u32 0, .u32 0, .u32 0, .u32 0, .u32 0, .u32 0,
  .sl true 0 0 (.agg []) true, .sl true 0 0 (.agg []) true, .sl true 0 0 (.agg []) true, .sl true 0 0 (.agg []) true, .sl true 0 0 (.agg []) true]
theorem Sw.size_eq (s : Sw) : w64 (2 + ior (w64 ((([s.b.l.getD 0 0].getD 0 0).toNat : Int) * 2 ^ min 8 64)) (([s.b.l.getD 1 0].getD 0 0).toNat : Int)) = (s.size : Int) := by
  rw [ior_bytes]; exact w64_size _ _
theorem Sw.sizeR_eq (s : Sw) : w64 (w64 (2 + w64 ((([s.b.l.getD 0 0].getD 0 0).toNat : Int) * 2 ^ min 8 64)) + (([s.b.l.getD 1 0].getD 0 0).toNat : Int)) = (s.size : Int) := by
  have hx : (s.b.l.getD 0 0).toNat < 256 := UInt8.toNat_lt _
  have hy : (s.b.l.getD 1 0).toNat < 256 := UInt8.toNat_lt _
  show w64 (w64 (2 + w64 (((s.b.l.getD 0 0).toNat : Int) * 2 ^ 8)) + ((s.b.l.getD 1 0).toNat : Int)) = _
  rw [w64_in (n := ((s.b.l.getD 0 0).toNat : Int) * 2 ^ 8) (by omega), w64_in (n := 2 + ((s.b.l.getD 0 0).toNat : Int) * 2 ^ 8) (by omega), w64_in (by omega), Sw.size]; omega
theorem Sw.size_lt (s : Sw) : s.size < 65538 := by
  have hx : (s.b.l.getD 0 0).toNat < 256 := UInt8.toNat_lt _
  have hy : (s.b.l.getD 1 0).toNat < 256 := UInt8.toNat_lt _
  unfold Sw.size; omega
theorem Sw.way0 {s : Sw} (h : s.bad = true ∨ s.b.l.length < 2) : s.way = 0 := by rw [Sw.way, if_pos h]
theorem Sw.way1 {s : Sw} (h : s.bad = false) (h2 : 2 ≤ s.b.l.length) (h3 : 202 < s.size) : s.way = 1 := by
  rw [Sw.way, if_neg (by rw [h]; simp; omega), if_pos h3]
theorem Sw.way00 {s : Sw} (h : s.bad = false) (h2 : 2 ≤ s.b.l.length) (h3 : ¬ 202 < s.size) (h4 : s.b.l.length < s.size) : s.way = 0 := by
  rw [Sw.way, if_neg (by rw [h]; simp; omega), if_neg h3, if_pos h4]
theorem Sw.way2 {s : Sw} (h : s.bad = false) (h2 : 2 ≤ s.b.l.length) (h3 : ¬ 202 < s.size) (h4 : ¬ s.b.l.length < s.size) : s.way = 2 := by
  rw [Sw.way, if_neg (by rw [h]; simp; omega), if_neg h3, if_neg h4]
set_option maxHeartbeats 2000000 in
theorem fn30 (d : By → Option Msg) (hd : SpE.ok Try.prog 20 (eDec d)) (s : Sw) (hs : s.b.l.length ≤ 1099511627776) : ACalls Try.prog 30 [.ptr 0 0 0] [⟨0, s.A, false⟩] (fun a h => a = .tup [.agg (orZ (s.told d)).C, .bool (s.told d).isSome] ∧ h = [⟨0, (s.nextW d).A, false⟩]) := by
  refine ACalls.tell (K := fun r h => (∃ a, r = .tup [a, .bool (s.told d).isSome] ∧ isMsg a (orZ (s.told d))) ∧ ∃ c, h = [⟨0, c, false⟩] ∧ isSw c (s.nextW d)) ?_ ?_
  · refine run30 (Γ := GK 1 keep30 [(20, eDec d)]) (own := false) (kn := 1) (.cons hd in20 .nil) (Nat.le_of_ble_eq_true rfl) rfl (Nat.le_refl _) ?_
    dsimp only [c30, keep30, res30, Sw.A, Msg.C, msgD, Msg.eta, eDec, By.eta, run, runOps, onER, doOp, noOp, ifB, onG, onGd, onB, onL, xfB, lookB, ↓fork_true, ↓fork_false, chkC, evc, vOnly, ev, evBin, evUn, evEq, evConv, evSlice, evApp, appSl, appMs, evCall, sfind, srcS, rdS, nilK, ctakeT0, eq1, eqs, shn, ngt, xv, xvs, xi, look, Go.Abs.put, trim, conj, both, argS, leafK, resv, one, one1, ofC, frzL, frzV, hasMs, hasMsL, hlen, hget, hset, hsnoc, htake, lget, ldrop, ltake, lset, lapp, lput, llen, lrep, cget, csub, cexp, exU8, exU32, exInt, cset, cput, capp, clen, toC, csubT, ctakeT, cdropT, celT, mulz, typed, ab?, ai?, au?, zeros, lay, lenS, offS, fulS, cutS, cutT, bnds, below, belowL, hbelow, sbelow, xfind, fits, eqS, eqH, eqO, loopK, sameS, sameH, SameL, Nat.beq, Nat.ble, Int.reduceToNat, Nat.reduceAdd, Nat.reduceMul, Nat.reduceSub, Int.reduceLT, Int.reduceLE, Int.reduceNeg, UInt64.reduceToNat, UInt32.reduceToNat, UInt8.reduceToNat, G0, GL, ev0, ev1, ev2, ev3, ev4, intD, u32D, u8D, boolD, strD, byD, numD, intsD, By.A, Num.C, sp0, s0f, objOf, peelB, startK, entryK, finB, allX, andE, GK, GKL, GR, onR, rfind, noR, fdShape, elT, allN, endR, retR, failK, rangeP, Nat.blt, Nat.succ, evP, l0D, l1D, l2D, frzI, frzR, ownF, frzC, frzA, frzJ, allFz, nestL]
    simp only [s.size_eq, Int.toNat_natCast]
    have t0 : s.way ≠ 2 → s.told d = none := fun h => by rw [Sw.told, if_neg h]
    have n0 : s.way = 0 → ∃ c, ([⟨0, AV.agg [AV.sl s.b.nil s.b.l.length 1 (AV.ab s.b.l) false, AV.int s.n, AV.bool s.bad], false⟩] : List AO) = [⟨0, c, false⟩] ∧ isSw c (s.nextW d) := fun h => ⟨_, rfl, by rw [Sw.nextW, if_pos h]; rfl⟩
    have n1 : s.way = 1 → ∃ c, ([⟨0, AV.agg [AV.sl s.b.nil s.b.l.length 1 (AV.ab s.b.l) false, AV.int s.n, AV.bool true], false⟩] : List AO) = [⟨0, c, false⟩] ∧ isSw c (s.nextW d) := fun h => ⟨_, rfl, by rw [Sw.nextW, if_neg (by omega), if_pos h]; rfl⟩
    have fin0 : s.way = 0 → _ := fun h => And.intro (fin_none (x := zeroA) rfl (t0 (by omega))) (n0 h)
    have fin1 : s.way = 1 → _ := fun h => And.intro (fin_none (x := zeroA) rfl (t0 (by omega))) (n1 h)
    refine fork_intro (fun h => ⟨trivial, trivial, trivial, by omega, fin0 (Sw.way0 (.inl h))⟩) (fun h => fork_intro (fun h2 => ?_) (fun h2 => ?_))
    · have h2 := of_decide_eq_true h2
      exact ⟨trivial, trivial, trivial, by omega, fin0 (Sw.way0 (.inr (by omega)))⟩
    have h2 := of_decide_eq_false h2
    refine ⟨by omega, by simp, by omega, by simp, fork_intro (fun h3 => ?_) (fun h3 => fork_intro (fun h4 => ?_) (fun h4 => ?_))⟩
    · have h3 := of_decide_eq_true h3
      exact ⟨trivial, trivial, trivial, by omega, fin1 (Sw.way1 h (by omega) (by omega))⟩
    · have h3 := of_decide_eq_false h3
      have h4 := of_decide_eq_true h4
      exact ⟨trivial, trivial, trivial, by omega, fin0 (Sw.way00 h (by omega) (by omega) (by omega))⟩
    · have h3 := of_decide_eq_false h3
      have h4 := of_decide_eq_false h4
      have hw := Sw.way2 h (by omega) (by omega) (by omega)
      refine ⟨by omega, by rw [List.length_take]; omega, trivial, by omega, trivial, trivial, trivial, by omega, ⟨_, by rw [Sw.told, if_pos hw]; rfl, by rw [Sw.told, if_pos hw]; rfl⟩, _, rfl, ?_⟩
      rw [Sw.nextW, if_neg (by omega), if_neg (by omega)]; rfl
  · rintro a h ⟨⟨a', rfl, h1⟩, c, rfl, h2⟩
    exact ⟨_, _, ⟨rfl, rfl⟩, Tell.tup ⟨msgD_tell _ _ h1, Tell.refl _, trivial⟩, ⟨rfl, rfl, swD_tellC _ _ h2⟩, trivial⟩
set_option maxHeartbeats 2000000 in
theorem fn31 (d : By → Option Msg) (hd : SpE.ok Try.prog 23 (eDec d)) (s : Sw) (hs : s.b.l.length ≤ 1099511627776) : ACalls Try.prog 31 [.ptr 0 0 0] [⟨0, s.A, false⟩] (fun a h => a = .tup [.agg (orZ (s.told d)).C, .bool (s.told d).isSome] ∧ h = [⟨0, (s.nextR d).A, false⟩]) := by
  refine ACalls.tell (K := fun r h => (∃ a, r = .tup [a, .bool (s.told d).isSome] ∧ isMsg a (orZ (s.told d))) ∧ ∃ c, h = [⟨0, c, false⟩] ∧ isSw c (s.nextR d)) ?_ ?_
  · refine run31 (Γ := GK 1 keep31 [(23, eDec d)]) (own := false) (kn := 1) (.cons hd in23 .nil) (Nat.le_of_ble_eq_true rfl) rfl (Nat.le_refl _) ?_
    dsimp only [c31, keep31, res31, Sw.A, Msg.C, msgD, Msg.eta, eDec, By.eta, run, runOps, onER, doOp, noOp, ifB, onG, onGd, onB, onL, xfB, lookB, ↓fork_true, ↓fork_false, chkC, evc, vOnly, ev, evBin, evUn, evEq, evConv, evSlice, evApp, appSl, appMs, evCall, sfind, srcS, rdS, nilK, ctakeT0, eq1, eqs, shn, ngt, xv, xvs, xi, look, Go.Abs.put, trim, conj, both, argS, leafK, resv, one, one1, ofC, frzL, frzV, hasMs, hasMsL, hlen, hget, hset, hsnoc, htake, lget, ldrop, ltake, lset, lapp, lput, llen, lrep, cget, csub, cexp, exU8, exU32, exInt, cset, cput, capp, clen, toC, csubT, ctakeT, cdropT, celT, mulz, typed, ab?, ai?, au?, zeros, lay, lenS, offS, fulS, cutS, cutT, bnds, below, belowL, hbelow, sbelow, xfind, fits, eqS, eqH, eqO, loopK, sameS, sameH, SameL, Nat.beq, Nat.ble, Int.reduceToNat, Nat.reduceAdd, Nat.reduceMul, Nat.reduceSub, Int.reduceLT, Int.reduceLE, Int.reduceNeg, UInt64.reduceToNat, UInt32.reduceToNat, UInt8.reduceToNat, G0, GL, ev0, ev1, ev2, ev3, ev4, intD, u32D, u8D, boolD, strD, byD, numD, intsD, By.A, Num.C, sp0, s0f, objOf, peelB, startK, entryK, finB, allX, andE, GK, GKL, GR, onR, rfind, noR, fdShape, elT, allN, endR, retR, failK, rangeP, Nat.blt, Nat.succ, evP, l0D, l1D, l2D, frzI, frzR, ownF, frzC, frzA, frzJ, allFz, nestL]
    have hz := s.size_lt
    simp only [s.sizeR_eq, Int.toNat_natCast, w64_in (show -9223372036854775808 ≤ (s.size : Int) - 2 ∧ (s.size : Int) - 2 ≤ 9223372036854775807 by omega)]
    have t0 : s.way ≠ 2 → s.told d = none := fun h => by rw [Sw.told, if_neg h]
    have n0 : s.way = 0 → ∃ c, ([⟨0, AV.agg [AV.sl s.b.nil s.b.l.length 1 (AV.ab s.b.l) false, AV.int s.n, AV.bool s.bad], false⟩] : List AO) = [⟨0, c, false⟩] ∧ isSw c (s.nextR d) := fun h => ⟨_, rfl, by rw [Sw.nextR, if_pos h]; rfl⟩
    have n1 : s.way = 1 → ∃ c, ([⟨0, AV.agg [AV.sl s.b.nil s.b.l.length 1 (AV.ab s.b.l) false, AV.int s.n, AV.bool true], false⟩] : List AO) = [⟨0, c, false⟩] ∧ isSw c (s.nextR d) := fun h => ⟨_, rfl, by rw [Sw.nextR, if_neg (by omega), if_pos h]; rfl⟩
    have fin0 : s.way = 0 → _ := fun h => And.intro (fin_none (x := zeroA) rfl (t0 (by omega))) (n0 h)
    have fin1 : s.way = 1 → _ := fun h => And.intro (fin_none (x := zeroA) rfl (t0 (by omega))) (n1 h)
    refine fork_intro (fun h => ⟨trivial, trivial, trivial, by omega, fin0 (Sw.way0 (.inl h))⟩) (fun h => fork_intro (fun h2 => ?_) (fun h2 => ?_))
    · have h2 := of_decide_eq_true h2
      exact ⟨trivial, trivial, trivial, by omega, fin0 (Sw.way0 (.inr (by omega)))⟩
    have h2 := of_decide_eq_false h2
    refine ⟨by omega, by simp, by omega, by simp, fork_intro (fun h3 => ?_) (fun h3 => fork_intro (fun h4 => ?_) (fun h4 => ?_))⟩
    · have h3 := of_decide_eq_true h3
      exact ⟨trivial, trivial, trivial, by omega, fin1 (Sw.way1 h (by omega) (by omega))⟩
    · have h3 := of_decide_eq_false h3
      have h4 := of_decide_eq_true h4
      exact ⟨trivial, trivial, trivial, by omega, fin0 (Sw.way00 h (by omega) (by omega) (by omega))⟩
    · have h3 := of_decide_eq_false h3
      have h4 := of_decide_eq_false h4
      have hw := Sw.way2 h (by omega) (by omega) (by omega)
      refine ⟨by omega, by rw [List.length_take]; omega, trivial, fork_intro (fun h5 => ?_) (fun h5 => ?_)⟩
      · refine ⟨by omega, trivial, trivial, trivial, by omega, ⟨_, by rw [Sw.told, if_pos hw]; rfl, by rw [Sw.told, if_pos hw]; rfl⟩, _, rfl, ?_⟩
        rw [Sw.nextR, if_neg (by omega), if_neg (by omega), show (d s.head).isSome = true from h5]; simp only; rw [← h5]; rfl
      · refine ⟨trivial, trivial, trivial, by omega, ⟨_, by rw [Sw.told, if_pos hw]; rfl, by rw [Sw.told, if_pos hw]; rfl⟩, _, rfl, ?_⟩
        rw [Sw.nextR, if_neg (by omega), if_neg (by omega), show (d s.head).isSome = false from h5]; simp only; rw [← h5]; rfl
  · rintro a h ⟨⟨a', rfl, h1⟩, c, rfl, h2⟩
    exact ⟨_, _, ⟨rfl, rfl⟩, Tell.tup ⟨msgD_tell _ _ h1, Tell.refl _, trivial⟩, ⟨rfl, rfl, swD_tellC _ _ h2⟩, trivial⟩
def eNextW (d : By → Option Msg) : SpE := ⟨true, evP swD Sw.A l0D (fun s _ => some (s.b.l.length ≤ 1099511627776)) (fun s _ => .tup [.agg (orZ (s.told d)).C, .bool (s.told d).isSome]) (fun s _ => s.nextW d)⟩
def eNextR (d : By → Option Msg) : SpE := ⟨true, evP swD Sw.A l0D (fun s _ => some (s.b.l.length ≤ 1099511627776)) (fun s _ => .tup [.agg (orZ (s.told d)).C, .bool (s.told d).isSome]) (fun s _ => s.nextR d)⟩
theorem ok30 {d : By → Option Msg} (hd : SpE.ok Try.prog 20 (eDec d)) : SpE.ok Try.prog 30 (eNextW d) := evP_ok kSw swD_tellC kl0 (fun _ _ => rfl) (fun s _ h => fn30 d hd s h)
theorem ok31 {d : By → Option Msg} (hd : SpE.ok Try.prog 23 (eDec d)) : SpE.ok Try.prog 31 (eNextR d) := evP_ok kSw swD_tellC kl0 (fun _ _ => rfl) (fun s _ h => fn31 d hd s h)
def e29 : SpE := ⟨true, evP swD Sw.A (l1D byD) (fun s b => some (s.b.l.length + b.l.length ≤ 1099511627776)) (fun s _ => .bool (!s.over)) (fun s b => s.wroteR b)⟩
theorem ok29 : SpE.ok Try.prog 29 e29 := evP_ok kSw swD_tellC (kl1 kBy) (fun _ _ => rfl) (fun s b h => fn29 s b h)
end Go.Abs

namespace Go.Abs
open Go.Proofs
set_option maxRecDepth 100000

/-- A record. -/
structure Rec where
  proto : Int
  name : List UInt8
  salt : By
  v : Num
  key : Num
  sea : By
  toks : Int
  at_ : Int
  rev : Int
def Rec.C (r : Rec) : List AV := [.int r.proto, .str r.name, r.salt.A, .u32 r.v.a0, .u32 r.v.a1, .u32 r.v.a2, .u32 r.v.a3, .u32 r.v.a4, .u32 r.v.a5, .u32 r.v.a6, .u32 r.v.a7,
  .u32 r.key.a0, .u32 r.key.a1, .u32 r.key.a2, .u32 r.key.a3, .u32 r.key.a4, .u32 r.key.a5, .u32 r.key.a6, .u32 r.key.a7, r.sea.A, .int r.toks, .int r.at_, .int r.rev]
def recD : AV → Option Rec
  | .agg [.int p, .str s, x1, .u32 a0, .u32 a1, .u32 a2, .u32 a3, .u32 a4, .u32 a5, .u32 a6, .u32 a7, .u32 b0, .u32 b1, .u32 b2, .u32 b3, .u32 b4, .u32 b5, .u32 b6, .u32 b7, x2, .int t, .int c, .int e] =>
    match byD x1 with
    | some y1 => match byD x2 with
      | some y2 => some ⟨p, s, y1, ⟨a0, a1, a2, a3, a4, a5, a6, a7⟩, ⟨b0, b1, b2, b3, b4, b5, b6, b7⟩, y2, t, c, e⟩
      | none => none
    | none => none
  | _ => none
theorem recD_tellL (a : AV) (m : Rec) (h : recD a = some m) : ∃ l, a = .agg l ∧ TellL l m.C := by
  unfold recD at h
  split at h
  · split at h
    · rename_i h1
      split at h
      · rename_i h2
        cases h
        refine ⟨_, rfl, ?_⟩
        simp only [Rec.C, TellL]
        exact ⟨Tell.refl _, Tell.refl _, byD_tell _ _ h1, Tell.refl _, Tell.refl _, Tell.refl _, Tell.refl _, Tell.refl _, Tell.refl _, Tell.refl _, Tell.refl _, Tell.refl _, Tell.refl _, Tell.refl _, Tell.refl _, Tell.refl _,
          Tell.refl _, Tell.refl _, Tell.refl _, byD_tell _ _ h2, Tell.refl _, Tell.refl _, Tell.refl _, trivial⟩
      · cases h
    · cases h
  · cases h
theorem recD_tell (a : AV) (m : Rec) (h : recD a = some m) : Tell a (.agg m.C) := by
  obtain ⟨l, rfl, hl⟩ := recD_tellL a m h; exact Tell.agg hl
theorem recD_tellC (a : AV) (m : Rec) (h : recD a = some m) : TellC a (.agg m.C) := by
  obtain ⟨l, rfl, hl⟩ := recD_tellL a m h; exact TellC.agg hl
def kRec : Kd Rec := ⟨recD, fun m => .agg m.C, recD_tell, fun _ => rfl⟩
theorem Rec.eta (r : Rec) : Rec.mk r.proto r.name r.salt r.v r.key r.sea r.toks r.at_ r.rev = r := rfl

/-- Whether a record may be. -/
def Rec.ok (r : Rec) : Bool := decide (1 ≤ r.proto) && (decide (r.proto ≤ 2) && (nameOK r.name && (decide (r.salt.l.length ≤ 16) && (decide (r.sea.l.length ≤ 48) && (r.v.low && (r.key.low && (decide (0 ≤ r.toks) && (decide (r.toks ≤ 255) && (decide (0 ≤ r.at_) && decide (0 ≤ r.rev))))))))))
def longB (l : List UInt8) : List UInt8 := UInt8.ofInt (l.length : Int) :: l
def Rec.w1 (r : Rec) : List UInt8 := [UInt8.ofInt r.proto] ++ [UInt8.ofInt (r.name.length : Int)] ++ r.name
def Rec.w2 (r : Rec) : List UInt8 := r.w1 ++ [UInt8.ofInt (r.salt.l.length : Int)] ++ r.salt.l
def Rec.w3 (r : Rec) : List UInt8 := r.w2 ++ [UInt8.ofInt (r.sea.l.length : Int)] ++ r.sea.l
/-- A record's bytes, by how eight are written. -/
def Rec.outL (r : Rec) (e : Int → List UInt8) (f : Num → List UInt8) : List UInt8 := r.w3 ++ f r.v ++ f r.key ++ [UInt8.ofInt r.toks] ++ e r.at_ ++ e r.rev
def Rec.outW (r : Rec) : By := match r.ok with | true => ⟨false, r.outL (fun n => atB (Num.from n) 8) (fun x => atB x 4)⟩ | false => ⟨true, []⟩
def Rec.outR (r : Rec) : By := match r.ok with | true => ⟨false, r.outL (fun n => eightTo n 8) (fun x => be4 x.a0)⟩ | false => ⟨true, []⟩
def Rec.part (r : Rec) : Nat → List UInt8
  | 0 => [UInt8.ofInt r.proto]
  | 1 => r.w1
  | 2 => r.w2
  | _ => r.w3
theorem fork_and {p q : Bool} {a b : Prop} (h1 : p = true → q = true → a) (h2 : (p = false ∨ q = false) → b) : fork p (fork q a b) b :=
  fork_intro (fun h => fork_intro (fun k => h1 h k) (fun k => h2 (.inr k))) (fun h => h2 (.inl h))
theorem Rec.oks {r : Rec} (h : r.ok = true) : 1 ≤ r.proto ∧ r.proto ≤ 2 ∧ nameOK r.name = true ∧ r.salt.l.length ≤ 16 ∧ r.sea.l.length ≤ 48 ∧ r.v.low = true ∧ r.key.low = true ∧ 0 ≤ r.toks ∧ r.toks ≤ 255 ∧ 0 ≤ r.at_ ∧ 0 ≤ r.rev := by
  simpa only [Rec.ok, Bool.and_eq_true, decide_eq_true_eq] using h
theorem Rec.bad {r : Rec} (k : r.ok = true → False) : r.ok = false := by cases h : r.ok with | true => exact (k h).elim | false => rfl
theorem bits_low (x : Num) : decide (32 < (x.bits : Int)) = !x.low := by
  have := x.bits_le
  cases h : x.low with
  | true => exact decide_eq_false (by have := this.2 h; omega)
  | false => exact decide_eq_true (by
      have : ¬ x.bits ≤ 32 := fun k => by rw [this.1 k] at h; cases h
      omega)
def isBy (a : AV) (b : By) : Prop := byD a = some b
def L35 (r : Rec) : LI where
  X := Nat
  x0 := 1
  pre i := 1 ≤ i ∧ i ≤ 3
  inv i := ([(1, .ptr 0 0 0), (4, .ms false 1 0 0 (r.part i).length 1), (76, .sl false 3 1 (.agg [.sl false r.name.length 1 (.ab r.name) false, r.salt.A, r.sea.A]) true), (77, .int 3), (78, .int (ilit i))], [⟨0, .agg r.C, false⟩, ⟨0, .ab (r.part i), false⟩])
  mu i := 12 - i
  ren := true
  peel := true
  fin := some [1, 2, 3]
set_option maxHeartbeats 4000000 in
theorem fn35 (r : Rec) : ACalls Try.prog 35 [.agg r.C] [] (fun a h => a = .tup [r.outW.A, .bool r.ok] ∧ h = []) := by
  refine ACalls.tell (K := fun a h => (∃ x, a = .tup [x, .bool r.ok] ∧ isBy x r.outW) ∧ h = []) ?_ ?_
  · refine run35 (Γ := GL keep35 [(60, e60), (61, e61), (62, e62), (63, e63), (64, e64)] fun _ => L35 r) (own := false) (kn := 0) (.cons ok60 in60 (.cons ok61 in61 (.cons ok62 in62 (.cons ok63 in63 (.cons ok64 in64 .nil))))) (Nat.le_of_ble_eq_true rfl) rfl (Nat.le_refl _) ?_
    dsimp only [c35, keep35, res35, L35, Rec.C, ilit, e60, e61, e62, e63, e64, Num.eta, By.eta, run, runOps, onER, doOp, noOp, ifB, onG, onGd, onB, onL, xfB, lookB, ↓fork_true, ↓fork_false, chkC, evc, vOnly, ev, evBin, evUn, evEq, evConv, evSlice, evApp, appSl, appMs, evCall, sfind, srcS, rdS, nilK, ctakeT0, eq1, eqs, shn, ngt, xv, xvs, xi, look, Go.Abs.put, trim, conj, both, argS, leafK, resv, one, one1, ofC, frzL, frzV, hasMs, hasMsL, hlen, hget, hset, hsnoc, htake, lget, ldrop, ltake, lset, lapp, lput, llen, lrep, cget, csub, cexp, exU8, exU32, exInt, cset, cput, capp, clen, toC, csubT, ctakeT, cdropT, celT, mulz, typed, ab?, ai?, au?, zeros, lay, lenS, offS, fulS, cutS, cutT, bnds, below, belowL, hbelow, sbelow, xfind, fits, eqS, eqH, eqO, loopK, sameS, sameH, SameL, Nat.beq, Nat.ble, Int.reduceToNat, Nat.reduceAdd, Nat.reduceMul, Nat.reduceSub, Int.reduceLT, Int.reduceLE, Int.reduceNeg, UInt64.reduceToNat, UInt32.reduceToNat, UInt8.reduceToNat, G0, GL, ev0, ev1, ev2, ev3, ev4, intD, u32D, u8D, boolD, strD, byD, numD, intsD, By.A, Num.C, sp0, s0f, objOf, peelB, startK, entryK, finB, allX, andE, GK, GKL, GR, onR, rfind, noR, fdShape, elT, allN, endR, retR, failK, rangeP, Nat.blt, Nat.succ, evP, l0D, l1D, l2D, frzI, frzR, ownF, frzC, frzA, frzJ, allFz, nestL]
    simp only [bits_low]
    have bad : (r.ok = true → False) → True ∧ True ∧ 0 ≤ 1 ∧ (∃ x, AV.tup [AV.sl true 0 0 (.agg []) true, AV.bool false] = AV.tup [x, AV.bool r.ok] ∧ isBy x r.outW) ∧ True := fun h => ⟨trivial, trivial, by omega, ⟨_, by rw [Rec.bad h], by rw [Rec.outW, Rec.bad h]; rfl⟩, trivial⟩
    refine fork_and (fun h1 h2 => bad fun k => ?_) (fun h1 => fork_intro (fun h2 => bad fun k => ?_) fun h2 => fork_intro (fun h3 => bad fun k => ?_) fun h3 => fork_intro (fun h4 => bad fun k => ?_) fun h4 =>
      fork_intro (fun h5 => bad fun k => ?_) fun h5 => fork_intro (fun h6 => bad fun k => ?_) fun h6 => fork_intro (fun h7 => bad fun k => ?_) fun h7 => fork_intro (fun h8 => bad fun k => ?_) fun h8 =>
      fork_intro (fun h9 => bad fun k => ?_) fun h9 => fork_intro (fun h10 => bad fun k => ?_) fun h10 => ?_)
    · have := r.oks k
      simp at h1 h2; omega
    · rw [(r.oks k).2.2.1] at h2; cases h2
    · have := r.oks k; have := of_decide_eq_true h3; omega
    · have := r.oks k; have := of_decide_eq_true h4; omega
    · rw [(r.oks k).2.2.2.2.2.1] at h5; cases h5
    · rw [(r.oks k).2.2.2.2.2.2.1] at h6; cases h6
    · have := r.oks k; have := of_decide_eq_true h7; omega
    · have := r.oks k; have := of_decide_eq_true h8; omega
    · have := r.oks k; have := of_decide_eq_true h9; omega
    · have := r.oks k; have := of_decide_eq_true h10; omega
    have hp : r.proto = 1 ∨ r.proto = 2 := by simpa using h1
    have h2 : nameOK r.name = true := by simpa using h2
    have h3 := of_decide_eq_false h3
    have h4 := of_decide_eq_false h4
    have h5 : r.v.low = true := by simpa using h5
    have h6 : r.key.low = true := by simpa using h6
    have h7 := of_decide_eq_false h7
    have h8 := of_decide_eq_false h8
    have h9 := of_decide_eq_false h9
    have h10 := of_decide_eq_false h10
    have hok : r.ok = true := by
      simp only [Rec.ok, Bool.and_eq_true, decide_eq_true_eq]
      and_intros <;> first | assumption | omega
    have hn := nameOK_len h2
    have n1 : r.w1.length = 2 + r.name.length := by simp [Rec.w1]; omega
    have n2 : r.w2.length = r.w1.length + 1 + r.salt.l.length := by simp only [Rec.w2, List.length_append, List.length_cons, List.length_nil]
    have n3 : r.w3.length = r.w2.length + 1 + r.sea.l.length := by simp only [Rec.w3, List.length_append, List.length_cons, List.length_nil]
    have p1 : r.part 1 = r.w1 := rfl
    have p2 : r.part 2 = r.w2 := rfl
    have p3 : r.part 3 = r.w3 := rfl
    have tk : ∀ (k : Nat) (l : List UInt8), 0 < k → l.take (k * l.length) = l := fun k l h => take_all (.inl (by omega))
    have t1 := tk r.w1.length r.w1 (by omega)
    have t2 := tk r.w2.length r.w2 (by omega)
    have t3 := tk r.w3.length r.w3 (by omega)
    rw [tk 2 ([UInt8.ofInt r.proto] ++ [UInt8.ofInt (r.name.length : Int)]) (by omega)]
    rw [p1, p2, p3, t1, t2, t3]
    rw [tk (r.w1.length + 1) (r.w1 ++ [UInt8.ofInt (r.salt.l.length : Int)]) (by omega), tk (r.w2.length + 1) (r.w2 ++ [UInt8.ofInt (r.sea.l.length : Int)]) (by omega)]
    rw [← n2, ← n3]
    refine ⟨fork_intro (fun _ => ?_) (fun h => by cases h), fun x hx => ?_, fork_intro (fun _ => ?_) (fun h => by cases h), fork_intro (fun _ => ?_) (fun h => by cases h), fork_intro (fun h => by cases h) (fun _ => ?_), trivial⟩
    · refine ⟨by omega, by omega, ⟨rfl, by omega⟩, 1, by omega, ⟨?_, ?_⟩⟩
      · rw [← n1]
        and_intros <;> first | trivial | rfl | exact .refl rfl | exact .ms rfl rfl rfl rfl | exact .ptr rfl rfl rfl rfl | exact .inl ⟨rfl, rfl⟩ | exact .inl rfl
      · and_intros <;> first | trivial | rfl | exact .refl rfl | exact .ms rfl rfl rfl rfl | exact .ptr rfl rfl rfl rfl | exact .inl ⟨rfl, rfl⟩ | exact .inl rfl
    · obtain ⟨x1, x2⟩ := hx
      rcases x with _ | _ | _ | _ | x <;> first | (simp; done) | omega
    · refine ⟨by omega, ⟨by simp, by omega⟩, ⟨by simp, by omega⟩, 2, by omega, by omega, ⟨?_, ?_⟩⟩
      all_goals and_intros <;> first | trivial | rfl | exact .refl rfl | exact .ms rfl rfl rfl rfl | exact .ptr rfl rfl rfl rfl | exact .inl ⟨rfl, rfl⟩ | exact .inl rfl
    · refine ⟨by omega, ⟨by simp, by omega⟩, ⟨by simp, by omega⟩, 3, by omega, by omega, ⟨?_, ?_⟩⟩
      all_goals and_intros <;> first | trivial | rfl | exact .refl rfl | exact .ms rfl rfl rfl rfl | exact .ptr rfl rfl rfl rfl | exact .inl ⟨rfl, rfl⟩ | exact .inl rfl
    · rw [tk (r.w3.length + 4) (r.w3 ++ atB r.v 4) (by omega), tk (r.w3.length + 4 + 4) (r.w3 ++ atB r.v 4 ++ atB r.key 4) (by omega), tk (r.w3.length + 4 + 4 + 1) (r.w3 ++ atB r.v 4 ++ atB r.key 4 ++ [UInt8.ofInt r.toks]) (by omega),
        tk (r.w3.length + 4 + 4 + 1 + 8) (r.w3 ++ atB r.v 4 ++ atB r.key 4 ++ [UInt8.ofInt r.toks] ++ atB (Num.from r.at_) 8) (by omega)]
      have q1 : (r.w3 ++ atB r.v 4).length = r.w3.length + 4 := by rw [List.length_append, atB_len _ _ (by omega)]
      have q2 : (r.w3 ++ atB r.v 4 ++ atB r.key 4).length = r.w3.length + 4 + 4 := by rw [List.length_append, atB_len _ _ (by omega), q1]
      have q3 : (r.w3 ++ atB r.v 4 ++ atB r.key 4 ++ [UInt8.ofInt r.toks]).length = r.w3.length + 4 + 4 + 1 := by rw [List.length_append, q2]; rfl
      have q4 : (r.w3 ++ atB r.v 4 ++ atB r.key 4 ++ [UInt8.ofInt r.toks] ++ atB (Num.from r.at_) 8).length = r.w3.length + 4 + 4 + 1 + 8 := by rw [List.length_append, atB_len _ _ (by omega), q3]
      have q5 : (r.w3 ++ atB r.v 4 ++ atB r.key 4 ++ [UInt8.ofInt r.toks] ++ atB (Num.from r.at_) 8 ++ atB (Num.from r.rev) 8).length = r.w3.length + 4 + 4 + 1 + 8 + 8 := by rw [List.length_append, atB_len _ _ (by omega), q4]
      refine ⟨by omega, ⟨rfl, by omega⟩, by omega, ⟨by omega, by omega⟩, ⟨by omega, by omega⟩, by omega, ⟨by omega, by omega⟩, by omega, ⟨by omega, by omega⟩, ?_⟩
      rw [← q5, List.drop_zero, List.take_length]
      refine ⟨⟨by omega, by omega⟩, trivial, trivial, by omega, ⟨_, by rw [hok], by rw [Rec.outW, hok]; rfl⟩, trivial⟩
  · rintro a h ⟨⟨x, rfl, h1⟩, rfl⟩
    exact ⟨_, _, ⟨rfl, rfl⟩, Tell.tup ⟨byD_tell _ _ h1, Tell.refl _, trivial⟩, TellH.refl _⟩
def e35 : SpE := ⟨true, ev1 recD (fun _ => none) fun r => .tup [r.outW.A, .bool r.ok]⟩
theorem ok35 : SpE.ok Try.prog 35 e35 := ev1_ok kRec (fun _ => rfl) (fun r _ => fn35 r)
end Go.Abs

namespace Go.Abs
open Go.Proofs
set_option maxRecDepth 100000

set_option maxHeartbeats 4000000 in
theorem fn36 (r : Rec) (hs : r.name.length ≤ 1099511627776) : ACalls Try.prog 36 [.agg r.C] [] (fun a h => a = .tup [r.outR.A, .bool r.ok] ∧ h = []) := by
  refine ACalls.tell (K := fun a h => (∃ x, a = .tup [x, .bool r.ok] ∧ isBy x r.outR) ∧ h = []) ?_ ?_
  · refine run36 (Γ := G0 keep36 [(58, e58), (59, e59), (65, e65), (66, e66)]) (own := false) (kn := 0) (.cons ok58 in58 (.cons ok59 in59 (.cons ok65 in65 (.cons ok66 in66 .nil)))) (Nat.le_of_ble_eq_true rfl) rfl (Nat.le_refl _) ?_
    dsimp only [c36, keep36, res36, Rec.C, e58, e59, e65, e66, Num.eta, By.eta, run, runOps, onER, doOp, noOp, ifB, onG, onGd, onB, onL, xfB, lookB, ↓fork_true, ↓fork_false, chkC, evc, vOnly, ev, evBin, evUn, evEq, evConv, evSlice, evApp, appSl, appMs, evCall, sfind, srcS, rdS, nilK, ctakeT0, eq1, eqs, shn, ngt, xv, xvs, xi, look, Go.Abs.put, trim, conj, both, argS, leafK, resv, one, one1, ofC, frzL, frzV, hasMs, hasMsL, hlen, hget, hset, hsnoc, htake, lget, ldrop, ltake, lset, lapp, lput, llen, lrep, cget, csub, cexp, exU8, exU32, exInt, cset, cput, capp, clen, toC, csubT, ctakeT, cdropT, celT, mulz, typed, ab?, ai?, au?, zeros, lay, lenS, offS, fulS, cutS, cutT, bnds, below, belowL, hbelow, sbelow, xfind, fits, eqS, eqH, eqO, loopK, sameS, sameH, SameL, Nat.beq, Nat.ble, Int.reduceToNat, Nat.reduceAdd, Nat.reduceMul, Nat.reduceSub, Int.reduceLT, Int.reduceLE, Int.reduceNeg, UInt64.reduceToNat, UInt32.reduceToNat, UInt8.reduceToNat, G0, GL, ev0, ev1, ev2, ev3, ev4, intD, u32D, u8D, boolD, strD, byD, numD, intsD, By.A, Num.C, sp0, s0f, objOf, peelB, startK, entryK, finB, allX, andE, GK, GKL, GR, onR, rfind, noR, fdShape, elT, allN, endR, retR, failK, rangeP, Nat.blt, Nat.succ, evP, l0D, l1D, l2D, frzI, frzR, ownF, frzC, frzA, frzJ, allFz, nestL]
    have tk : ∀ (k : Nat) (l : List UInt8), 0 < k → l.take (k * l.length) = l := fun k l h => take_all (.inl (by omega))
    simp (disch := omega) only [tk]
    have bad : (r.ok = true → False) → True ∧ True ∧ 0 ≤ 1 ∧ (∃ x, AV.tup [AV.sl true 0 0 (.agg []) true, AV.bool false] = AV.tup [x, AV.bool r.ok] ∧ isBy x r.outR) ∧ True := fun h => ⟨trivial, trivial, by omega, ⟨_, by rw [Rec.bad h], by rw [Rec.outR, Rec.bad h]; rfl⟩, trivial⟩
    refine fork_intro (fun h1 => bad fun k => ?_) fun h1 => fork_intro (fun h1b => bad fun k => ?_) fun h1b => ⟨hs, fork_intro (fun h2 => bad fun k => ?_) fun h2 => fork_intro (fun h3 => bad fun k => ?_) fun h3 => fork_intro (fun h4 => bad fun k => ?_) fun h4 =>
      fork_intro (fun h5 => bad fun k => ?_) fun h5 => fork_intro (fun h6 => bad fun k => ?_) fun h6 => fork_intro (fun h7 => bad fun k => ?_) fun h7 => fork_intro (fun h8 => bad fun k => ?_) fun h8 =>
      fork_intro (fun h9 => bad fun k => ?_) fun h9 => fork_intro (fun h10 => bad fun k => ?_) fun h10 => ?_⟩
    · have := r.oks k; have := of_decide_eq_true h1; omega
    · have := r.oks k; have := of_decide_eq_true h1b; omega
    · rw [(r.oks k).2.2.1] at h2; cases h2
    · have := r.oks k; have := of_decide_eq_true h3; omega
    · have := r.oks k; have := of_decide_eq_true h4; omega
    · rw [(r.oks k).2.2.2.2.2.1] at h5; cases h5
    · rw [(r.oks k).2.2.2.2.2.2.1] at h6; cases h6
    · have := r.oks k; have := of_decide_eq_true h7; omega
    · have := r.oks k; have := of_decide_eq_true h8; omega
    · have := r.oks k; have := of_decide_eq_true h9; omega
    · have := r.oks k; have := of_decide_eq_true h10; omega
    have h1 := of_decide_eq_false h1
    have h1b := of_decide_eq_false h1b
    have h2 : nameOK r.name = true := by simpa using h2
    have h3 := of_decide_eq_false h3
    have h4 := of_decide_eq_false h4
    have h5 : r.v.low = true := by simpa using h5
    have h6 : r.key.low = true := by simpa using h6
    have h7 := of_decide_eq_false h7
    have h8 := of_decide_eq_false h8
    have h9 := of_decide_eq_false h9
    have h10 := of_decide_eq_false h10
    have hok : r.ok = true := by
      simp only [Rec.ok, Bool.and_eq_true, decide_eq_true_eq]
      and_intros <;> first | assumption | omega
    have hn := nameOK_len h2
    have hn1 : 1 ≤ r.name.length := by
      simp only [nameOK, Bool.and_eq_true, decide_eq_true_eq] at h2
      exact h2.1
    have lb : ∀ x, (be4 x).length = 4 := fun _ => rfl
    have ll : ∀ n, (eightTo n 8).length = 8 := fun n => eightTo_len n 8
    have e : 2 + r.name.length + 1 + r.salt.l.length + 1 + r.sea.l.length + 4 + 4 + 1 + 8 + 8 = ([UInt8.ofInt r.proto, UInt8.ofInt (r.name.length : Int)] ++ r.name ++ [UInt8.ofInt (r.salt.l.length : Int)] ++ r.salt.l ++ [UInt8.ofInt (r.sea.l.length : Int)] ++ r.sea.l ++ be4 r.v.a0 ++ be4 r.key.a0 ++ [UInt8.ofInt r.toks] ++ eightTo r.at_ 8 ++ eightTo r.rev 8).length := by
      simp only [List.length_append, List.length_cons, List.length_nil, lb, ll]
    rw [List.drop_zero, List.take_of_length_le (Nat.le_of_eq e.symm)]
    and_intros
    all_goals first | trivial | omega | (simp only [List.length_append, List.length_cons, List.length_nil, lb, ll]; done) | (simp only [List.length_append, List.length_cons, List.length_nil, lb, ll]; omega) | skip
    refine ⟨_, by rw [hok], ?_⟩
    rw [Rec.outR, hok]; rfl
  · rintro a h ⟨⟨x, rfl, h1⟩, rfl⟩
    exact ⟨_, _, ⟨rfl, rfl⟩, Tell.tup ⟨byD_tell _ _ h1, Tell.refl _, trivial⟩, TellH.refl _⟩
def e36 : SpE := ⟨true, ev1 recD (fun r => some (r.name.length ≤ 1099511627776)) fun r => .tup [r.outR.A, .bool r.ok]⟩
theorem ok36 : SpE.ok Try.prog 36 e36 := ev1_ok kRec (fun _ => rfl) (fun r h => fn36 r h)
end Go.Abs

namespace Go.Abs
open Go.Proofs
set_option maxRecDepth 100000

def Rec.zero : Rec := ⟨0, [], By.no, Num.zero, Num.zero, By.no, 0, 0, 0⟩
def isRec (a : AV) (m : Rec) : Prop := recD a = some m
def orZR : Option Rec → Rec | some m => m | none => Rec.zero
/-- The reader's states. -/
def rr0 (b : By) : Rd := ⟨b, false⟩
def rr1 (b : By) : Rd := (rr0 b).next 1
def rr2 (b : By) : Rd := (rr1 b).nextL
def rr3 (b : By) : Rd := (rr2 b).nextL
def rr4 (b : By) : Rd := (rr3 b).nextL
def rr5 (b : By) : Rd := (rr4 b).next 4
def rr6 (b : By) : Rd := (rr5 b).next 4
def rr7 (b : By) : Rd := (rr6 b).next 1
def rr8 (b : By) : Rd := (rr7 b).next 8
def rr9 (b : By) : Rd := (rr8 b).next 8
def recW (b : By) : Rec := ⟨((rr0 b).num 1).i64, (rr1 b).long.l, (rr2 b).long, (rr4 b).num 4, (rr5 b).num 4, (rr3 b).long, ((rr6 b).num 1).i64, ((rr7 b).num 8).i64, ((rr8 b).num 8).i64⟩
def readW (b : By) : Option Rec := match (recW b).ok && (!(rr9 b).bad && ((recW b).outW.l == b.l)) with | true => some (recW b) | false => none
theorem Rd.nextL_le (r : Rd) : r.nextL.b.l.length ≤ r.b.l.length := by
  have h1 := r.next_le 1
  have h2 := (r.next 1).next_le (r.num 1).i64
  unfold Rd.nextL; omega
theorem finr_none {x : AV} {d : Option Rec} (hx : isRec x Rec.zero) (e : d = none) : ∃ a, AV.tup [x, .bool false] = .tup [a, .bool d.isSome] ∧ isRec a (orZR d) := ⟨x, by rw [e]; rfl, by rw [e]; exact hx⟩
theorem finr_some {x : AV} {d : Option Rec} {m : Rec} (hx : isRec x m) (e : d = some m) : ∃ a, AV.tup [x, .bool true] = .tup [a, .bool d.isSome] ∧ isRec a (orZR d) := ⟨x, by rw [e]; rfl, by rw [e]; exact hx⟩
set_option maxHeartbeats 4000000 in
theorem fn37 (b : By) (hb : b.l.length ≤ 1099511627776) : ACalls Try.prog 37 [b.A] [] (fun a h => a = .tup [.agg (orZR (readW b)).C, .bool (readW b).isSome] ∧ h = []) := by
  refine ACalls.tell (K := fun a h => (∃ x, a = .tup [x, .bool (readW b).isSome] ∧ isRec x (orZR (readW b))) ∧ h = []) ?_ ?_
  · refine run37 (Γ := G0 keep37 [(52, e52), (54, e54), (67, e67), (35, e35), (55, e55)]) (own := false) (kn := 0) (.cons ok52 in52 (.cons ok54 in54 (.cons ok67 in67 (.cons ok35 in35 (.cons ok55 in55 .nil))))) (Nat.le_of_ble_eq_true rfl) rfl (Nat.le_refl _) ?_
    dsimp only [c37, keep37, res37, Rec.C, recD, Rd.A, rdD, e52, e54, e67, e35, e55, Num.eta, By.eta, Rd.eta, Rec.eta, run, runOps, onER, doOp, noOp, ifB, onG, onGd, onB, onL, xfB, lookB, ↓fork_true, ↓fork_false, chkC, evc, vOnly, ev, evBin, evUn, evEq, evConv, evSlice, evApp, appSl, appMs, evCall, sfind, srcS, rdS, nilK, ctakeT0, eq1, eqs, shn, ngt, xv, xvs, xi, look, Go.Abs.put, trim, conj, both, argS, leafK, resv, one, one1, ofC, frzL, frzV, hasMs, hasMsL, hlen, hget, hset, hsnoc, htake, lget, ldrop, ltake, lset, lapp, lput, llen, lrep, cget, csub, cexp, exU8, exU32, exInt, cset, cput, capp, clen, toC, csubT, ctakeT, cdropT, celT, mulz, typed, ab?, ai?, au?, zeros, lay, lenS, offS, fulS, cutS, cutT, bnds, below, belowL, hbelow, sbelow, xfind, fits, eqS, eqH, eqO, loopK, sameS, sameH, SameL, Nat.beq, Nat.ble, Int.reduceToNat, Nat.reduceAdd, Nat.reduceMul, Nat.reduceSub, Int.reduceLT, Int.reduceLE, Int.reduceNeg, UInt64.reduceToNat, UInt32.reduceToNat, UInt8.reduceToNat, G0, GL, ev0, ev1, ev2, ev3, ev4, intD, u32D, u8D, boolD, strD, byD, numD, intsD, By.A, Num.C, sp0, s0f, objOf, peelB, startK, entryK, finB, allX, andE, GK, GKL, GR, onR, rfind, noR, fdShape, elT, allN, endR, retR, failK, rangeP, Nat.blt, Nat.succ, evP, l0D, l1D, l2D, frzI, frzR, ownF, frzC, frzA, frzJ, allFz, nestL]
    have l0 : (rr0 b).b.l.length ≤ 1099511627776 := hb
    have l1 : (rr1 b).b.l.length ≤ 1099511627776 := Nat.le_trans ((rr0 b).next_le 1) l0
    have l2 : (rr2 b).b.l.length ≤ 1099511627776 := Nat.le_trans (rr1 b).nextL_le l1
    have l3 : (rr3 b).b.l.length ≤ 1099511627776 := Nat.le_trans (rr2 b).nextL_le l2
    have l4 : (rr4 b).b.l.length ≤ 1099511627776 := Nat.le_trans (rr3 b).nextL_le l3
    have l5 : (rr5 b).b.l.length ≤ 1099511627776 := Nat.le_trans ((rr4 b).next_le 4) l4
    have l6 : (rr6 b).b.l.length ≤ 1099511627776 := Nat.le_trans ((rr5 b).next_le 4) l5
    have l7 : (rr7 b).b.l.length ≤ 1099511627776 := Nat.le_trans ((rr6 b).next_le 1) l6
    have l8 : (rr8 b).b.l.length ≤ 1099511627776 := Nat.le_trans ((rr7 b).next_le 8) l7
    refine ⟨l0, rfl, l1, l2, l3, l4, rfl, l5, rfl, l6, l7, l8, fork_intro (fun h => ?_) (fun h => fork_intro (fun h2 => ?_) (fun h2 => fork_intro (fun h3 => ?_) (fun h3 => ?_)))⟩
    · have h : (!(recW b).ok) = true := h
      have e : readW b = none := by rw [readW, not_t h]; rfl
      exact ⟨rfl, rfl, rfl, by omega, finr_none rfl e, rfl⟩
    · have h : (!(recW b).ok) = false := h
      have h2 : (rr9 b).bad = true := h2
      have e : readW b = none := by rw [readW, h2]; simp
      exact ⟨rfl, rfl, rfl, by omega, finr_none rfl e, rfl⟩
    · have h3 : (!((recW b).outW.l == b.l)) = true := h3
      have e : readW b = none := by rw [readW, not_t h3]; simp
      exact ⟨rfl, rfl, rfl, by omega, finr_none rfl e, rfl⟩
    · have h : (!(recW b).ok) = false := h
      have h2 : (rr9 b).bad = false := h2
      have h3 : (!((recW b).outW.l == b.l)) = false := h3
      have e : readW b = some (recW b) := by rw [readW, not_f h, h2, not_f h3]; rfl
      exact ⟨rfl, rfl, rfl, by omega, finr_some rfl e, rfl⟩
  · rintro a h ⟨⟨x, rfl, h1⟩, rfl⟩
    exact ⟨_, _, ⟨rfl, rfl⟩, Tell.tup ⟨recD_tell _ _ h1, Tell.refl _, trivial⟩, TellH.refl _⟩
def e37 : SpE := ⟨true, ev1 byD (fun b => some (b.l.length ≤ 1099511627776)) fun b => .tup [.agg (orZR (readW b)).C, .bool (readW b).isSome]⟩
theorem ok37 : SpE.ok Try.prog 37 e37 := ev1_ok kBy (fun _ => rfl) (fun b h => fn37 b h)

/-! ### The document's reader -/
def Rd.gotR (r : Rd) (n : Int) : By := match decide ((r.b.l.length : Int) < n) with | true => ⟨false, List.replicate n.toNat 0⟩ | false => ⟨false, r.b.l.take n.toNat⟩
def Rd.nextR (r : Rd) (n : Int) : Rd := match decide ((r.b.l.length : Int) < n) with | true => ⟨⟨true, []⟩, true⟩ | false => ⟨⟨r.b.nil, r.b.l.drop n.toNat⟩, r.bad⟩
set_option maxHeartbeats 1000000 in
theorem fn69 (r : Rd) (n : Int) (hr : r.b.l.length ≤ 1099511627776) (hn : 0 ≤ n ∧ n ≤ 1099511627776) : ACalls Try.prog 69 [.ptr 0 0 0, .int n] [⟨0, r.A, false⟩] (fun a h => a = (r.gotR n).A ∧ h = [⟨0, (r.nextR n).A, false⟩]) := by
  refine ACalls.tell (K := fun a h => byD a = some (r.gotR n) ∧ ∃ c, h = [⟨0, c, false⟩] ∧ rdD c = some (r.nextR n)) ?_ ?_
  · refine run69 (Γ := GK 1 keep69 []) (own := false) (kn := 1) .nil (Nat.le_of_ble_eq_true rfl) rfl (Nat.le_refl _) ?_
    dsimp only [c69, keep69, res69, Rd.A, By.eta, run, runOps, onER, doOp, noOp, ifB, onG, onGd, onB, onL, xfB, lookB, ↓fork_true, ↓fork_false, chkC, evc, vOnly, ev, evBin, evUn, evEq, evConv, evSlice, evApp, appSl, appMs, evCall, sfind, srcS, rdS, nilK, ctakeT0, eq1, eqs, shn, ngt, xv, xvs, xi, look, Go.Abs.put, trim, conj, both, argS, leafK, resv, one, one1, ofC, frzL, frzV, hasMs, hasMsL, hlen, hget, hset, hsnoc, htake, lget, ldrop, ltake, lset, lapp, lput, llen, lrep, cget, csub, cexp, exU8, exU32, exInt, cset, cput, capp, clen, toC, csubT, ctakeT, cdropT, celT, mulz, typed, ab?, ai?, au?, zeros, lay, lenS, offS, fulS, cutS, cutT, bnds, below, belowL, hbelow, sbelow, xfind, fits, eqS, eqH, eqO, loopK, sameS, sameH, SameL, Nat.beq, Nat.ble, Int.reduceToNat, Nat.reduceAdd, Nat.reduceMul, Nat.reduceSub, Int.reduceLT, Int.reduceLE, Int.reduceNeg, UInt64.reduceToNat, UInt32.reduceToNat, UInt8.reduceToNat, G0, GL, ev0, ev1, ev2, ev3, ev4, intD, u32D, u8D, boolD, strD, byD, numD, intsD, By.A, Num.C, sp0, s0f, objOf, peelB, startK, entryK, finB, allX, andE, GK, GKL, GR, onR, rfind, noR, fdShape, elT, allN, endR, retR, failK, rangeP, Nat.blt, Nat.succ, evP, l0D, l1D, l2D, frzI, frzR, ownF, frzC, frzA, frzJ, allFz, nestL]
    refine fork_intro (fun h => ?_) (fun h => ?_)
    · rw [List.drop_zero, List.take_of_length_le (by simp)]
      refine ⟨by omega, by simp, rfl, rfl, by omega, by rw [Rd.gotR, h], _, rfl, by rw [Rd.nextR, h]; rfl⟩
    · have h' := of_decide_eq_false h
      have hl : (r.b.l.take n.toNat).length = n.toNat := by rw [List.length_take]; omega
      rw [List.drop_zero, List.take_of_length_le (Nat.le_of_eq hl)]
      refine ⟨by omega, by omega, by omega, by omega, rfl, rfl, by omega, by rw [Rd.gotR, h], _, rfl, by rw [Rd.nextR, h]; rfl⟩
  · rintro a h ⟨h1, c, rfl, h2⟩
    exact ⟨_, _, ⟨rfl, rfl⟩, byD_tell _ _ h1, ⟨rfl, rfl, rdD_tellC _ _ h2⟩, trivial⟩
def e69 : SpE := ⟨true, evP rdD Rd.A (l1D intD) (fun r n => some (r.b.l.length ≤ 1099511627776 ∧ (0 ≤ n ∧ n ≤ 1099511627776))) (fun r n => (r.gotR n).A) (fun r n => r.nextR n)⟩
theorem ok69 : SpE.ok Try.prog 69 e69 := evP_ok kRd rdD_tellC (kl1 kInt) (fun _ _ => rfl) (fun r n h => fn69 r n h.1 h.2)
def ss0 (b : By) : Rd := ⟨b, false⟩
def ss1 (b : By) : Rd := (ss0 b).nextR 1
def Rd.longR (r : Rd) : By := (r.nextR 1).gotR (numR (r.gotR 1).l)
def Rd.nextLR (r : Rd) : Rd := (r.nextR 1).nextR (numR (r.gotR 1).l)
def ss2 (b : By) : Rd := (ss1 b).nextLR
def ss3 (b : By) : Rd := (ss2 b).nextLR
def ss4 (b : By) : Rd := (ss3 b).nextLR
def ss5 (b : By) : Rd := (ss4 b).nextR 4
def ss6 (b : By) : Rd := (ss5 b).nextR 4
def ss7 (b : By) : Rd := (ss6 b).nextR 1
def ss8 (b : By) : Rd := (ss7 b).nextR 8
def ss9 (b : By) : Rd := (ss8 b).nextR 8
def recR (b : By) : Rec := ⟨numR ((ss0 b).gotR 1).l, (ss1 b).longR.l, (ss2 b).longR, Num.read ((ss4 b).gotR 4).l, Num.read ((ss5 b).gotR 4).l, (ss3 b).longR, numR ((ss6 b).gotR 1).l, numR ((ss7 b).gotR 8).l, numR ((ss8 b).gotR 8).l⟩
def pickR : Bool → Rec → Option Rec | true, r => some r | false, _ => none
def readR (b : By) : Option Rec := pickR (!(ss9 b).bad && ((recR b).ok && ((recR b).outR.l == b.l))) (recR b)
theorem readR_eq (b : By) : readR b = pickR (!(ss9 b).bad && ((recR b).ok && ((recR b).outR.l == b.l))) (recR b) := rfl
theorem isRec_C (r : Rec) : isRec (.agg r.C) r := rfl
theorem Rd.nextR_le (r : Rd) (n : Int) : (r.nextR n).b.l.length ≤ r.b.l.length := by
  unfold Rd.nextR; split
  · simp
  · simp
theorem Rd.nextLR_le (r : Rd) : r.nextLR.b.l.length ≤ r.b.l.length := by
  have h1 := r.nextR_le 1
  have h2 := (r.nextR 1).nextR_le (numR (r.gotR 1).l)
  unfold Rd.nextLR; omega
theorem Rd.gotR_len (r : Rd) (n : Nat) : (r.gotR n).l.length = n := by
  unfold Rd.gotR; split
  · simp
  · rename_i h; have := of_decide_eq_false h; simp; omega
theorem numR_one {l : List UInt8} (h : l.length = 1) : numR l = ((l.getD 0 0).toNat : Int) := by
  rw [numR, h]
  show ior (w64 (((0 : UInt8).toNat : Int) * 2 ^ min 8 64)) ((l.getD 0 0).toNat : Int) = _
  rw [ior_bytes]; simp
theorem Rd.numR_one (r : Rd) : 0 ≤ numR (r.gotR 1).l ∧ numR (r.gotR 1).l ≤ 1099511627776 := by
  rw [Abs.numR_one (show (r.gotR 1).l.length = 1 from r.gotR_len 1)]
  have := ((r.gotR 1).l.getD 0 0).toNat_lt
  omega
theorem Rd.longR_len (r : Rd) : r.longR.l.length ≤ 1099511627776 := by
  have h := r.numR_one
  rw [Rd.longR]
  obtain ⟨k, hk⟩ : ∃ k : Nat, numR (r.gotR 1).l = k := ⟨(numR (r.gotR 1).l).toNat, by omega⟩
  rw [hk] at h ⊢
  rw [Rd.gotR_len]; omega
theorem ss0_eq (b : By) : Rd.mk b false = ss0 b := rfl
theorem ss1_eq (b : By) : (ss0 b).nextR 1 = ss1 b := rfl
theorem longR_eq (r : Rd) : (r.nextR 1).gotR (numR (r.gotR 1).l) = r.longR := rfl
theorem nextLR_eq (r : Rd) : (r.nextR 1).nextR (numR (r.gotR 1).l) = r.nextLR := rfl
theorem ss2_eq (b : By) : (ss1 b).nextLR = ss2 b := rfl
theorem ss3_eq (b : By) : (ss2 b).nextLR = ss3 b := rfl
theorem ss4_eq (b : By) : (ss3 b).nextLR = ss4 b := rfl
theorem ss5_eq (b : By) : (ss4 b).nextR 4 = ss5 b := rfl
theorem ss6_eq (b : By) : (ss5 b).nextR 4 = ss6 b := rfl
theorem ss7_eq (b : By) : (ss6 b).nextR 1 = ss7 b := rfl
theorem ss8_eq (b : By) : (ss7 b).nextR 8 = ss8 b := rfl
theorem ss9_eq (b : By) : (ss8 b).nextR 8 = ss9 b := rfl
theorem recR_eq (b : By) : Rec.mk (numR ((ss0 b).gotR 1).l) (ss1 b).longR.l (ss2 b).longR (Num.read ((ss4 b).gotR 4).l) (Num.read ((ss5 b).gotR 4).l) (ss3 b).longR (numR ((ss6 b).gotR 1).l) (numR ((ss7 b).gotR 8).l) (numR ((ss8 b).gotR 8).l) = recR b := rfl
theorem tup_rec (p : Int) (s : List UInt8) (x : By) (v k : Num) (y : By) (t c f : Int) (d : Option Rec) (e : d = some ⟨p, s, x, v, k, y, t, c, f⟩) : ∃ a, AV.tup [.agg [.int p, .str s, .sl x.nil x.l.length 1 (.ab x.l) false, .u32 v.a0, .u32 v.a1, .u32 v.a2, .u32 v.a3, .u32 v.a4, .u32 v.a5, .u32 v.a6, .u32 v.a7,
    .u32 k.a0, .u32 k.a1, .u32 k.a2, .u32 k.a3, .u32 k.a4, .u32 k.a5, .u32 k.a6, .u32 k.a7, .sl y.nil y.l.length 1 (.ab y.l) false, .int t, .int c, .int f], .bool true] = .tup [a, .bool d.isSome] ∧ isRec a (orZR d) := by
  subst e
  exact ⟨_, rfl, rfl⟩
set_option maxHeartbeats 4000000 in
theorem fn39 (b : By) (hb : b.l.length ≤ 1099511627776) : ACalls Try.prog 39 [b.A] [] (fun a h => a = .tup [.agg (orZR (readR b)).C, .bool (readR b).isSome] ∧ h = []) := by
  refine ACalls.tell (K := fun a h => (∃ x, a = .tup [x, .bool (readR b).isSome] ∧ isRec x (orZR (readR b))) ∧ h = []) ?_ ?_
  · refine run39 (Γ := G0 keep39 [(69, e69), (68, e68), (70, e70), (36, e36)]) (own := false) (kn := 0) (.cons ok69 in69 (.cons ok68 in68 (.cons ok70 in70 (.cons ok36 in36 .nil)))) (Nat.le_of_ble_eq_true rfl) rfl (Nat.le_refl _) ?_
    dsimp only [c39, keep39, res39, Rec.C, recD, Rd.A, rdD, e69, e68, e70, e36, Num.eta, By.eta, Rd.eta, Rec.eta, run, runOps, onER, doOp, noOp, ifB, onG, onGd, onB, onL, xfB, lookB, ↓fork_true, ↓fork_false, chkC, evc, vOnly, ev, evBin, evUn, evEq, evConv, evSlice, evApp, appSl, appMs, evCall, sfind, srcS, rdS, nilK, ctakeT0, eq1, eqs, shn, ngt, xv, xvs, xi, look, Go.Abs.put, trim, conj, both, argS, leafK, resv, one, one1, ofC, frzL, frzV, hasMs, hasMsL, hlen, hget, hset, hsnoc, htake, lget, ldrop, ltake, lset, lapp, lput, llen, lrep, cget, csub, cexp, exU8, exU32, exInt, cset, cput, capp, clen, toC, csubT, ctakeT, cdropT, celT, mulz, typed, ab?, ai?, au?, zeros, lay, lenS, offS, fulS, cutS, cutT, bnds, below, belowL, hbelow, sbelow, xfind, fits, eqS, eqH, eqO, loopK, sameS, sameH, SameL, Nat.beq, Nat.ble, Int.reduceToNat, Nat.reduceAdd, Nat.reduceMul, Nat.reduceSub, Int.reduceLT, Int.reduceLE, Int.reduceNeg, UInt64.reduceToNat, UInt32.reduceToNat, UInt8.reduceToNat, G0, GL, ev0, ev1, ev2, ev3, ev4, intD, u32D, u8D, boolD, strD, byD, numD, intsD, By.A, Num.C, sp0, s0f, objOf, peelB, startK, entryK, finB, allX, andE, GK, GKL, GR, onR, rfind, noR, fdShape, elT, allN, endR, retR, failK, rangeP, Nat.blt, Nat.succ, evP, l0D, l1D, l2D, frzI, frzR, ownF, frzC, frzA, frzJ, allFz, nestL]
    simp only [ss0_eq, ss1_eq, longR_eq, nextLR_eq, ss2_eq, ss3_eq, ss4_eq, ss5_eq, ss6_eq, ss7_eq, ss8_eq, ss9_eq, recR_eq]
    generalize hB : (ss9 b).bad = bd
    generalize hO : (recR b).ok = okb
    generalize hE : ((recR b).outR.l == b.l) = eqb
    have d1 : (0 : Int) ≤ 1 ∧ (1 : Int) ≤ 1099511627776 := by omega
    have d4 : (0 : Int) ≤ 4 ∧ (4 : Int) ≤ 1099511627776 := by omega
    have d8 : (0 : Int) ≤ 8 ∧ (8 : Int) ≤ 1099511627776 := by omega
    have l0 : (ss0 b).b.l.length ≤ 1099511627776 := hb
    have l1 : (ss1 b).b.l.length ≤ 1099511627776 := by rw [← ss1_eq]; exact Nat.le_trans ((ss0 b).nextR_le 1) l0
    have l2 : (ss2 b).b.l.length ≤ 1099511627776 := by rw [← ss2_eq]; exact Nat.le_trans (ss1 b).nextLR_le l1
    have l3 : (ss3 b).b.l.length ≤ 1099511627776 := by rw [← ss3_eq]; exact Nat.le_trans (ss2 b).nextLR_le l2
    have l4 : (ss4 b).b.l.length ≤ 1099511627776 := by rw [← ss4_eq]; exact Nat.le_trans (ss3 b).nextLR_le l3
    have l5 : (ss5 b).b.l.length ≤ 1099511627776 := by rw [← ss5_eq]; exact Nat.le_trans ((ss4 b).nextR_le 4) l4
    have l6 : (ss6 b).b.l.length ≤ 1099511627776 := by rw [← ss6_eq]; exact Nat.le_trans ((ss5 b).nextR_le 4) l5
    have l7 : (ss7 b).b.l.length ≤ 1099511627776 := by rw [← ss7_eq]; exact Nat.le_trans ((ss6 b).nextR_le 1) l6
    have l8 : (ss8 b).b.l.length ≤ 1099511627776 := by rw [← ss8_eq]; exact Nat.le_trans ((ss7 b).nextR_le 8) l7
    have n1 := (ss1 b).numR_one
    have n2 := (ss2 b).numR_one
    have n3 := (ss3 b).numR_one
    have k1 : ((ss1 b).nextR 1).b.l.length ≤ 1099511627776 := Nat.le_trans ((ss1 b).nextR_le 1) l1
    have k2 : ((ss2 b).nextR 1).b.l.length ≤ 1099511627776 := Nat.le_trans ((ss2 b).nextR_le 1) l2
    have k3 : ((ss3 b).nextR 1).b.l.length ≤ 1099511627776 := Nat.le_trans ((ss3 b).nextR_le 1) l3
    have hn := (ss1 b).longR_len
    refine ⟨⟨hb, d1⟩, trivial, ⟨l1, d1⟩, ⟨k1, n1⟩, ⟨l2, d1⟩, ⟨k2, n2⟩, ⟨l3, d1⟩, ⟨k3, n3⟩, ⟨l4, d4⟩, trivial, ⟨l5, d4⟩, trivial, ⟨l6, d1⟩, ⟨l7, d8⟩, ⟨l8, d8⟩, hn, ?_⟩
    refine fork_intro (fun h => ?_) (fun h => fork_intro (fun h2 => ?_) (fun h2 => fork_intro (fun h3 => ?_) (fun h3 => ?_)))
    · have e : readR b = none := by rw [readR_eq, hB, h, Bool.not_true, Bool.false_and]; rfl
      exact ⟨trivial, trivial, trivial, Nat.zero_le _, finr_none rfl e, trivial⟩
    · have e : readR b = none := by rw [readR_eq, hO, not_t h2, Bool.false_and, Bool.and_false]; rfl
      exact ⟨trivial, trivial, trivial, Nat.zero_le _, finr_none rfl e, trivial⟩
    · have e : readR b = none := by rw [readR_eq, hE, not_t h3, Bool.and_false, Bool.and_false]; rfl
      exact ⟨trivial, trivial, trivial, Nat.zero_le _, finr_none rfl e, trivial⟩
    · have e : readR b = some (recR b) := by rw [readR_eq, hB, hO, hE, h, not_f h2, not_f h3]; rfl
      exact ⟨trivial, trivial, trivial, Nat.zero_le _, tup_rec (numR ((ss0 b).gotR 1).l) (ss1 b).longR.l (ss2 b).longR (Num.read ((ss4 b).gotR 4).l) (Num.read ((ss5 b).gotR 4).l) (ss3 b).longR (numR ((ss6 b).gotR 1).l) (numR ((ss7 b).gotR 8).l) (numR ((ss8 b).gotR 8).l) (readR b) (e.trans (congrArg some (recR_eq b).symm)), trivial⟩
  · rintro a h ⟨⟨x, rfl, h1⟩, rfl⟩
    exact ⟨_, _, ⟨rfl, rfl⟩, Tell.tup ⟨recD_tell _ _ h1, Tell.refl _, trivial⟩, TellH.refl _⟩
def e39 : SpE := ⟨true, ev1 byD (fun b => some (b.l.length ≤ 1099511627776)) fun b => .tup [.agg (orZR (readR b)).C, .bool (readR b).isSome]⟩
theorem ok39 : SpE.ok Try.prog 39 e39 := ev1_ok kBy (fun _ => rfl) (fun b h => fn39 b h)
end Go.Abs

namespace Go.Abs
open Go.Proofs
set_option maxRecDepth 100000

theorem eqs_num2 (x y : Num) : (x.a0 == y.a0 && (x.a1 == y.a1 && (x.a2 == y.a2 && (x.a3 == y.a3 && (x.a4 == y.a4 && (x.a5 == y.a5 && (x.a6 == y.a6 && x.a7 == y.a7))))))) = decide (x = y) := by
  rw [Bool.eq_iff_iff]
  obtain ⟨a0, a1, a2, a3, a4, a5, a6, a7⟩ := x
  obtain ⟨b0, b1, b2, b3, b4, b5, b6, b7⟩ := y
  simp
def Msg.same (m n : Msg) : Bool := (m.kind == n.kind) && ((m.proto == n.proto) && ((m.channel == n.channel) && ((m.e == n.e) && ((m.name == n.name) && (decide (m.a = n.a) && (decide (m.b = n.b) && ((m.salt.l == n.salt.l) && ((m.sea.l == n.sea.l) && ((m.tag.l == n.tag.l) && ((m.tok.l == n.tok.l) && (m.rcd.l == n.rcd.l)))))))))))
def Rec.same (m n : Rec) : Bool := (m.proto == n.proto) && ((m.name == n.name) && ((m.salt.l == n.salt.l) && (decide (m.v = n.v) && (decide (m.key = n.key) && ((m.sea.l == n.sea.l) && ((m.toks == n.toks) && ((m.at_ == n.at_) && (m.rev == n.rev))))))))
set_option maxHeartbeats 1000000 in
theorem fn21 (m n : Msg) : ACalls Try.prog 21 [.agg m.C, .agg n.C] [] (fun a h => a = .bool (m.same n) ∧ h = []) := by
  refine run21 (Γ := G0 keep21 []) (own := false) (kn := 0) .nil (Nat.le_of_ble_eq_true rfl) rfl (Nat.le_refl _) ?_
  dsimp only [c21, keep21, res21, Msg.C, run, runOps, onER, doOp, noOp, ifB, onG, onGd, onB, onL, xfB, lookB, ↓fork_true, ↓fork_false, chkC, evc, vOnly, ev, evBin, evUn, evEq, evConv, evSlice, evApp, appSl, appMs, evCall, sfind, srcS, rdS, nilK, ctakeT0, eq1, eqs, shn, ngt, xv, xvs, xi, look, Go.Abs.put, trim, conj, both, argS, leafK, resv, one, one1, ofC, frzL, frzV, hasMs, hasMsL, hlen, hget, hset, hsnoc, htake, lget, ldrop, ltake, lset, lapp, lput, llen, lrep, cget, csub, cexp, exU8, exU32, exInt, cset, cput, capp, clen, toC, csubT, ctakeT, cdropT, celT, mulz, typed, ab?, ai?, au?, zeros, lay, lenS, offS, fulS, cutS, cutT, bnds, below, belowL, hbelow, sbelow, xfind, fits, eqS, eqH, eqO, loopK, sameS, sameH, SameL, Nat.beq, Nat.ble, Int.reduceToNat, Nat.reduceAdd, Nat.reduceMul, Nat.reduceSub, Int.reduceLT, Int.reduceLE, Int.reduceNeg, UInt64.reduceToNat, UInt32.reduceToNat, UInt8.reduceToNat, G0, GL, ev0, ev1, ev2, ev3, ev4, intD, u32D, u8D, boolD, strD, byD, numD, intsD, By.A, Num.C, sp0, s0f, objOf, peelB, startK, entryK, finB, allX, andE, GK, GKL, GR, onR, rfind, noR, fdShape, elT, allN, endR, retR, failK, rangeP, Nat.blt, Nat.succ, evP, l0D, l1D, l2D, frzI, frzR, ownF, frzC, frzA, frzJ, allFz, nestL]
  simp only [eqs_num2]
  repeat' (refine fork_intro (fun h => ?_) (fun h => ?_))
  all_goals simp only [Msg.same, *, Bool.true_and, Bool.false_and, and_self, Nat.zero_le]
def e21 : SpE := ⟨true, ev2 msgD msgD (fun _ _ => none) fun m n => .bool (m.same n)⟩
theorem ok21 : SpE.ok Try.prog 21 e21 := ev2_ok kMsg kMsg (fun _ _ => rfl) (fun m n _ => fn21 m n)
set_option maxHeartbeats 1000000 in
theorem fn38 (m n : Rec) : ACalls Try.prog 38 [.agg m.C, .agg n.C] [] (fun a h => a = .bool (m.same n) ∧ h = []) := by
  refine run38 (Γ := G0 keep38 []) (own := false) (kn := 0) .nil (Nat.le_of_ble_eq_true rfl) rfl (Nat.le_refl _) ?_
  dsimp only [c38, keep38, res38, Rec.C, run, runOps, onER, doOp, noOp, ifB, onG, onGd, onB, onL, xfB, lookB, ↓fork_true, ↓fork_false, chkC, evc, vOnly, ev, evBin, evUn, evEq, evConv, evSlice, evApp, appSl, appMs, evCall, sfind, srcS, rdS, nilK, ctakeT0, eq1, eqs, shn, ngt, xv, xvs, xi, look, Go.Abs.put, trim, conj, both, argS, leafK, resv, one, one1, ofC, frzL, frzV, hasMs, hasMsL, hlen, hget, hset, hsnoc, htake, lget, ldrop, ltake, lset, lapp, lput, llen, lrep, cget, csub, cexp, exU8, exU32, exInt, cset, cput, capp, clen, toC, csubT, ctakeT, cdropT, celT, mulz, typed, ab?, ai?, au?, zeros, lay, lenS, offS, fulS, cutS, cutT, bnds, below, belowL, hbelow, sbelow, xfind, fits, eqS, eqH, eqO, loopK, sameS, sameH, SameL, Nat.beq, Nat.ble, Int.reduceToNat, Nat.reduceAdd, Nat.reduceMul, Nat.reduceSub, Int.reduceLT, Int.reduceLE, Int.reduceNeg, UInt64.reduceToNat, UInt32.reduceToNat, UInt8.reduceToNat, G0, GL, ev0, ev1, ev2, ev3, ev4, intD, u32D, u8D, boolD, strD, byD, numD, intsD, By.A, Num.C, sp0, s0f, objOf, peelB, startK, entryK, finB, allX, andE, GK, GKL, GR, onR, rfind, noR, fdShape, elT, allN, endR, retR, failK, rangeP, Nat.blt, Nat.succ, evP, l0D, l1D, l2D, frzI, frzR, ownF, frzC, frzA, frzJ, allFz, nestL]
  simp only [eqs_num2]
  repeat' (refine fork_intro (fun h => ?_) (fun h => ?_))
  all_goals simp only [Rec.same, *, Bool.true_and, Bool.false_and, and_self, Nat.zero_le]
def e38 : SpE := ⟨true, ev2 recD recD (fun _ _ => none) fun m n => .bool (m.same n)⟩
theorem ok38 : SpE.ok Try.prog 38 e38 := ev2_ok kRec kRec (fun _ _ => rfl) (fun m n _ => fn38 m n)

/-! ### Name -/
def nameC (x : UInt8) : UInt8 := UInt8.ofInt (w64 (33 + within1 (x.toNat : Int) 94))
def nameL (s : List UInt8) : List UInt8 := match s with | [] => [117] | _ => (s.map nameC).take 16
/-- Name's loop: the first i bytes are turned. -/
def nameTo (s : List UInt8) (i : Nat) : List UInt8 := (s.take i).map nameC ++ s.drop i
theorem nameTo_len (s : List UInt8) (i : Nat) : (nameTo s i).length = s.length := by
  simp [nameTo]; omega
theorem nameTo_at (s : List UInt8) (i : Nat) (h : i < s.length) : (nameTo s i).getD i 0 = s.getD i 0 := by
  have hl : ((s.take i).map nameC).length = i := by simp; omega
  rw [nameTo, List.getD_eq_getElem?_getD, List.getElem?_append_right (by omega), hl, Nat.sub_self, List.getElem?_drop, Nat.add_zero, ← List.getD_eq_getElem?_getD]
theorem nameTo_next (s : List UInt8) (i : Nat) (h : i < s.length) : (nameTo s i).set i (nameC (s.getD i 0)) = nameTo s (i + 1) := by
  have hl : ((s.take i).map nameC).length = i := by simp; omega
  have hg : s.getD i 0 = s[i] := by simp [List.getD_eq_getElem?_getD, List.getElem?_eq_getElem h]
  rw [nameTo, List.set_append_right _ _ (by omega), hl, Nat.sub_self, List.drop_eq_getElem_cons h, List.set_cons_zero, nameTo, List.take_succ_eq_append_getElem h, List.map_append, hg]
  simp
theorem nameTo_all (s : List UInt8) : nameTo s s.length = s.map nameC := by simp [nameTo]
def L42 (s : List UInt8) : LI where
  X := Nat
  x0 := 0
  pre i := i ≤ s.length
  inv i := ([(0, .str s), (3, .ms false 0 0 0 s.length 1), (4, .int i)], [⟨0, .ab (nameTo s i), false⟩])
  mu i := s.length - i
  ren := false
set_option maxHeartbeats 1000000 in
theorem fn42 (s : List UInt8) (hs : s.length ≤ 1099511627776) : ACalls Try.prog 42 [.str s] [] (fun a h => a = .str (nameL s) ∧ h = []) := by
  refine run42 (Γ := GL keep42 [(22, e22)] fun _ => L42 s) (own := false) (kn := 0) (.cons ok22 in22 .nil) (Nat.le_of_ble_eq_true rfl) rfl (Nat.le_refl _) ?_
  dsimp only [c42, keep42, res42, L42, e22, run, runOps, onER, doOp, noOp, ifB, onG, onGd, onB, onL, xfB, lookB, ↓fork_true, ↓fork_false, chkC, evc, vOnly, ev, evBin, evUn, evEq, evConv, evSlice, evApp, appSl, appMs, evCall, sfind, srcS, rdS, nilK, ctakeT0, eq1, eqs, shn, ngt, xv, xvs, xi, look, Go.Abs.put, trim, conj, both, argS, leafK, resv, one, one1, ofC, frzL, frzV, hasMs, hasMsL, hlen, hget, hset, hsnoc, htake, lget, ldrop, ltake, lset, lapp, lput, llen, lrep, cget, csub, cexp, exU8, exU32, exInt, cset, cput, capp, clen, toC, csubT, ctakeT, cdropT, celT, mulz, typed, ab?, ai?, au?, zeros, lay, lenS, offS, fulS, cutS, cutT, bnds, below, belowL, hbelow, sbelow, xfind, fits, eqS, eqH, eqO, loopK, sameS, sameH, SameL, Nat.beq, Nat.ble, Int.reduceToNat, Nat.reduceAdd, Nat.reduceMul, Nat.reduceSub, Int.reduceLT, Int.reduceLE, Int.reduceNeg, UInt64.reduceToNat, UInt32.reduceToNat, UInt8.reduceToNat, G0, GL, ev0, ev1, ev2, ev3, ev4, intD, u32D, u8D, boolD, strD, byD, numD, intsD, By.A, Num.C, sp0, s0f, objOf, peelB, startK, entryK, finB, allX, andE, GK, GKL, GR, onR, rfind, noR, fdShape, elT, allN, endR, retR, failK, rangeP, Nat.blt, Nat.succ, evP, l0D, l1D, l2D, frzI, frzR, ownF, frzC, frzA, frzJ, allFz, nestL]
  simp only [Int.toNat_natCast, Nat.zero_add]
  refine ⟨⟨⟨?_, ?_⟩, Nat.zero_le _⟩, fun i hi => fork_intro (fun h => ?_) (fun h => ?_)⟩
  · and_intros <;> first | trivial | rfl
  · and_intros <;> first | trivial | rfl | exact .inl rfl
  · have h := of_decide_eq_true h
    have h : i < s.length := by omega
    rw [nameTo_at s i h, nameTo_len]
    refine ⟨by omega, h, by omega, by omega, h, i + 1, by omega, by omega, ?_, ?_⟩
    · rw [w64_in (n := (i : Int) + 1) (by omega)]
      and_intros <;> first | trivial | rfl
    · and_intros <;> first | trivial | rfl | skip
      exact .inl (congrArg AV.ab (nameTo_next s i h))
  · have h := of_decide_eq_false h
    obtain rfl : i = s.length := by omega
    rw [nameTo_len, nameTo_all]
    refine fork_intro (fun h2 => ?_) (fun h2 => ?_)
    · have h2 : s = [] := by simpa using h2
      subst h2
      and_intros <;> first | trivial | rfl | omega
    · have h2 : s ≠ [] := by intro e; subst e; simp at h2
      have hp := List.length_pos_iff.2 h2
      have e : nameL s = (s.map nameC).take 16 := by cases s with | nil => exact absurd rfl h2 | cons x l => rfl
      refine ⟨by split <;> omega, by split <;> omega, ?_⟩
      rw [e, List.drop_zero]
      and_intros <;> first | trivial | rfl | omega | skip
      split
      · rfl
      · rw [List.take_of_length_le (by simp), List.take_of_length_le (by simp; omega)]
def e42 : SpE := ⟨true, ev1 strD (fun s => some (s.length ≤ 1099511627776)) fun s => .str (nameL s)⟩
theorem ok42 : SpE.ok Try.prog 42 e42 := ev1_ok kStr (fun _ => rfl) (fun s h => fn42 s h)

/-! ### some -/
def someAt (b : List UInt8) (n : Int) (i : Nat) : UInt8 := match decide (i < b.length) with | true => b.getD i 0 | false => UInt8.ofInt (w64 (n + w64 ((i : Int) * 7)))
def someTo (b : List UInt8) (n : Int) : Nat → List UInt8
  | 0 => []
  | i + 1 => someTo b n i ++ [someAt b n i]
theorem someTo_len (b : List UInt8) (n : Int) : ∀ i, (someTo b n i).length = i
  | 0 => rfl
  | i + 1 => by simp [someTo, someTo_len b n i]
def someK (n most : Int) : Nat := (w64 (1 + within1 n most)).toNat
def someL (b : List UInt8) (n most : Int) : List UInt8 := someTo b n (someK n most)
theorem some_set (b : List UInt8) (n : Int) (i k : Nat) (x : UInt8) (h : i < k) : (someTo b n i ++ List.replicate (k - i) 0).set i x = someTo b n i ++ (x :: List.replicate (k - (i + 1)) 0) := by
  rw [List.set_append_right _ _ (by rw [someTo_len]; exact Nat.le_refl _), someTo_len, Nat.sub_self, show k - i = k - (i + 1) + 1 by omega, List.replicate_succ, List.set_cons_zero]
theorem within1_in {a b : Int} (h : 0 < b) : 0 ≤ within1 a b ∧ within1 a b < b := by
  have h1 := Int.tmod_lt_of_pos a h
  have h2 := Int.lt_tmod_of_pos a h
  unfold within1; split <;> omega
theorem someK_eq (n most : Int) (hm : 0 < most ∧ most ≤ 1000) : w64 (1 + within1 n most) = (someK n most : Int) ∧ 1 ≤ someK n most ∧ (someK n most : Int) ≤ most := by
  have h := within1_in (a := n) hm.1
  have e : w64 (1 + within1 n most) = 1 + within1 n most := w64_in (by omega)
  unfold someK
  rw [e]; omega
def L43 (b : By) (n most : Int) : LI where
  X := Nat
  x0 := 0
  pre i := i ≤ someK n most
  inv i := ([(0, b.A), (1, .int n), (7, .int (w64 (1 + within1 n most))), (8, .ms false 0 0 0 (someK n most) 1), (9, .int i)], [⟨0, .ab (someTo b.l n i ++ List.replicate (someK n most - i) 0), false⟩])
  mu i := someK n most - i
  ren := false
set_option maxHeartbeats 1000000 in
theorem fn43 (b : By) (n most : Int) (hm : 0 < most ∧ most ≤ 1000) (hb : b.l.length ≤ 1099511627776) : ACalls Try.prog 43 [b.A, .int n, .int most] [] (fun a h => a = (By.mk false (someL b.l n most)).A ∧ h = []) := by
  refine run43 (Γ := GL keep43 [(22, e22)] fun _ => L43 b n most) (own := false) (kn := 0) (.cons ok22 in22 .nil) (Nat.le_of_ble_eq_true rfl) rfl (Nat.le_refl _) ?_
  dsimp only [c43, keep43, res43, L43, e22, By.A, run, runOps, onER, doOp, noOp, ifB, onG, onGd, onB, onL, xfB, lookB, ↓fork_true, ↓fork_false, chkC, evc, vOnly, ev, evBin, evUn, evEq, evConv, evSlice, evApp, appSl, appMs, evCall, sfind, srcS, rdS, nilK, ctakeT0, eq1, eqs, shn, ngt, xv, xvs, xi, look, Go.Abs.put, trim, conj, both, argS, leafK, resv, one, one1, ofC, frzL, frzV, hasMs, hasMsL, hlen, hget, hset, hsnoc, htake, lget, ldrop, ltake, lset, lapp, lput, llen, lrep, cget, csub, cexp, exU8, exU32, exInt, cset, cput, capp, clen, toC, csubT, ctakeT, cdropT, celT, mulz, typed, ab?, ai?, au?, zeros, lay, lenS, offS, fulS, cutS, cutT, bnds, below, belowL, hbelow, sbelow, xfind, fits, eqS, eqH, eqO, loopK, sameS, sameH, SameL, Nat.beq, Nat.ble, Int.reduceToNat, Nat.reduceAdd, Nat.reduceMul, Nat.reduceSub, Int.reduceLT, Int.reduceLE, Int.reduceNeg, UInt64.reduceToNat, UInt32.reduceToNat, UInt8.reduceToNat, G0, GL, ev0, ev1, ev2, ev3, ev4, intD, u32D, u8D, boolD, strD, byD, numD, intsD, By.A, Num.C, sp0, s0f, objOf, peelB, startK, entryK, finB, allX, andE, GK, GKL, GR, onR, rfind, noR, fdShape, elT, allN, endR, retR, failK, rangeP, Nat.blt, Nat.succ, evP, l0D, l1D, l2D, frzI, frzR, ownF, frzC, frzA, frzJ, allFz, nestL]
  obtain ⟨hk, hk1, hk2⟩ := someK_eq n most hm
  simp only [hk, Int.toNat_natCast, Nat.zero_add]
  refine ⟨by omega, by omega, ⟨⟨?_, ?_⟩, Nat.zero_le _⟩, fun i hi => fork_intro (fun h => ?_) (fun h => ?_)⟩
  · and_intros <;> first | trivial | rfl
  · and_intros <;> first | trivial | rfl | exact .inl rfl
  · have h := of_decide_eq_true h
    have h : i < someK n most := by omega
    have hl : (someTo b.l n i ++ List.replicate (someK n most - i) 0).length = someK n most := by simp [someTo_len]; omega
    refine ⟨by omega, by omega, fork_intro (fun h2 => ?_) (fun h2 => ?_)⟩
    · have h2 := of_decide_eq_true h2
      have h2 : i < b.l.length := by omega
      refine ⟨by omega, by simp, by omega, by rw [List.length_set]; omega, i + 1, by omega, by omega, ?_, ?_⟩
      · rw [w64_in (n := (i : Int) + 1) (by omega)]
        and_intros <;> first | trivial | rfl
      · and_intros <;> first | trivial | rfl | skip
        refine .inl ?_
        rw [List.set_set, some_set _ _ _ _ _ h, someTo, someAt, decide_eq_true h2]
        simp [List.getD_cons_zero]
    · have h2 := of_decide_eq_false h2
      have h2 : ¬ i < b.l.length := by omega
      refine ⟨i + 1, by omega, by omega, ?_, ?_⟩
      · rw [w64_in (n := (i : Int) + 1) (by omega)]
        and_intros <;> first | trivial | rfl
      · and_intros <;> first | trivial | rfl | skip
        refine .inl ?_
        rw [some_set _ _ _ _ _ h, someTo, someAt, decide_eq_false h2]
        simp
  · have h := of_decide_eq_false h
    obtain rfl : i = someK n most := by omega
    have hl : (someTo b.l n (someK n most)).length = someK n most := someTo_len _ _ _
    refine ⟨by simp [hl], by trivial, by trivial, by omega, ?_, by trivial⟩
    rw [someL, List.drop_zero, Nat.sub_self, List.replicate_zero, List.append_nil, List.take_of_length_le (by omega), hl]
def e43 : SpE := ⟨true, ev3 byD intD intD (fun b _ most => some ((0 < most ∧ most ≤ 1000) ∧ b.l.length ≤ 1099511627776)) fun b n most => (By.mk false (someL b.l n most)).A⟩
theorem ok43 : SpE.ok Try.prog 43 e43 := ev3_ok kBy kInt kInt (fun _ _ _ => rfl) (fun b n m h => fn43 b n m h.1 h.2)
end Go.Abs

namespace Go.Abs
open Go.Proofs
set_option maxRecDepth 100000

def someB (b : By) (n most : Int) : By := ⟨false, someL b.l n most⟩
def mkK (kind : Int) : Int := w64 (1 + within1 kind 12)
def mkP (n : Int) : Int := w64 (1 + within1 n 2)
def mkA (n : Int) : Num := Num.from (w64 (1 + within1 n 4294967295))
def mkC (n : Int) : Num := Num.from (w64 (1 + within1 (w64 (n.tdiv 3)) 70000))
/-- Make's message. -/
def makeM (kind n : Int) (s : List UInt8) (b : By) : Msg :=
  if mkK kind = 1 then (if mkP n = 2 then { Msg.zero with kind := mkK kind, proto := mkP n, name := nameL s, a := mkA n, b := mkC n } else { Msg.zero with kind := mkK kind, proto := mkP n, name := nameL s, a := mkA n })
  else if mkK kind = 2 then (if mkP n = 2 then { Msg.zero with kind := mkK kind, proto := mkP n, a := mkC n, b := mkA n, sea := someB b n 48 } else { Msg.zero with kind := mkK kind, proto := mkP n, b := mkA n, salt := someB b n 16 })
  else if mkK kind = 3 then { Msg.zero with kind := mkK kind, tag := someB b n 16 }
  else if mkK kind = 4 then (if within1 (w64 (n.tdiv 2)) 2 = 0 then { Msg.zero with kind := mkK kind, tok := someB b n 80, tag := someB b (w64 (n.tdiv 7)) 16 } else { Msg.zero with kind := mkK kind, tok := someB b n 80 })
  else if mkK kind = 5 then { Msg.zero with kind := mkK kind, e := w64 (1 + within1 n 11) }
  else if mkK kind = 6 then { Msg.zero with kind := mkK kind, proto := mkP n, name := nameL s, rcd := someB b n 120 }
  else if mkK kind = 8 then { Msg.zero with kind := mkK kind, tok := someB b n 80, channel := w64 (1 + within1 n 1099511627776) }
  else if mkK kind = 12 then { Msg.zero with kind := mkK kind, tok := someB b n 80, channel := w64 (1 + within1 n 1099511627776) }
  else if mkK kind = 9 then { Msg.zero with kind := mkK kind, tok := someB b n 80 }
  else if mkK kind = 10 then { Msg.zero with kind := mkK kind, tok := someB b n 80 }
  else if mkK kind = 11 then { Msg.zero with kind := mkK kind, proto := mkP n, tok := someB b n 80, rcd := someB b (w64 (n.tdiv 5)) 110 }
  else { Msg.zero with kind := mkK kind }
set_option maxHeartbeats 8000000 in
theorem fn16 (kind n : Int) (s : List UInt8) (b : By) (hs : s.length ≤ 1099511627776) (hb : b.l.length ≤ 1099511627776) : ACalls Try.prog 16 [.int kind, .int n, .str s, b.A] [] (fun a h => a = .agg (makeM kind n s b).C ∧ h = []) := by
  refine ACalls.tell (K := fun a h => isMsg a (makeM kind n s b) ∧ h = []) ?_ ?_
  · refine run16 (Γ := G0 keep16 [(22, e22), (24, e24), (42, e42), (43, e43)]) (own := false) (kn := 0) (.cons ok22 in22 (.cons ok24 in24 (.cons ok42 in42 (.cons ok43 in43 .nil)))) (Nat.le_of_ble_eq_true rfl) rfl (Nat.le_refl _) ?_
    dsimp only [c16, keep16, res16, e22, e24, e42, e43, Num.eta, By.eta, By.A, isMsg, msgD, run, runOps, onER, doOp, noOp, ifB, onG, onGd, onB, onL, xfB, lookB, ↓fork_true, ↓fork_false, chkC, evc, vOnly, ev, evBin, evUn, evEq, evConv, evSlice, evApp, appSl, appMs, evCall, sfind, srcS, rdS, nilK, ctakeT0, eq1, eqs, shn, ngt, xv, xvs, xi, look, Go.Abs.put, trim, conj, both, argS, leafK, resv, one, one1, ofC, frzL, frzV, hasMs, hasMsL, hlen, hget, hset, hsnoc, htake, lget, ldrop, ltake, lset, lapp, lput, llen, lrep, cget, csub, cexp, exU8, exU32, exInt, cset, cput, capp, clen, toC, csubT, ctakeT, cdropT, celT, mulz, typed, ab?, ai?, au?, zeros, lay, lenS, offS, fulS, cutS, cutT, bnds, below, belowL, hbelow, sbelow, xfind, fits, eqS, eqH, eqO, loopK, sameS, sameH, SameL, Nat.beq, Nat.ble, Int.reduceToNat, Nat.reduceAdd, Nat.reduceMul, Nat.reduceSub, Int.reduceLT, Int.reduceLE, Int.reduceNeg, UInt64.reduceToNat, UInt32.reduceToNat, UInt8.reduceToNat, G0, GL, ev0, ev1, ev2, ev3, ev4, intD, u32D, u8D, boolD, strD, byD, numD, intsD, By.A, Num.C, sp0, s0f, objOf, peelB, startK, entryK, finB, allX, andE, GK, GKL, GR, onR, rfind, noR, fdShape, elT, allN, endR, retR, failK, rangeP, Nat.blt, Nat.succ, evP, l0D, l1D, l2D, frzI, frzR, ownF, frzC, frzA, frzJ, allFz, nestL]
    simp only [show w64 (1 + within1 kind 12) = mkK kind from rfl, show w64 (1 + within1 n 2) = mkP n from rfl, show Num.from (w64 (1 + within1 n 4294967295)) = mkA n from rfl, show Num.from (w64 (1 + within1 (w64 (n.tdiv 3)) 70000)) = mkC n from rfl]
    refine ⟨by omega, by trivial, by omega, by omega, by trivial, by omega, by omega, by trivial, ?_⟩
    repeat' (first | refine fork_intro (fun h => ?_) (fun h => ?_) | refine And.intro ?_ ?_)
    all_goals first | trivial | omega | skip
    all_goals simp only [beq_iff_eq, beq_eq_false_iff_ne, ne_eq] at *
    all_goals first | (exfalso; omega) | (refine congrArg some ?_; simp only [makeM, *, Int.reduceEq, ↓reduceIte]; rfl)
  · rintro a h ⟨h1, rfl⟩
    exact ⟨_, _, ⟨rfl, rfl⟩, msgD_tell _ _ h1, TellH.refl _⟩
def e16 : SpE := ⟨true, ev4 intD intD strD byD (fun _ _ s b => some (s.length ≤ 1099511627776 ∧ b.l.length ≤ 1099511627776)) fun k n s b => .agg (makeM k n s b).C⟩
theorem ok16 : SpE.ok Try.prog 16 e16 := ev4_ok kInt kInt kStr kBy (fun _ _ _ _ => rfl) (fun k n s b h => fn16 k n s b h.1 h.2)
end Go.Abs

namespace Go.Abs
open Go.Proofs
set_option maxRecDepth 100000

theorem k15a : (Msg.mk 7 0 0 0 [] ⟨0, 0, 0, 0, 0, 0, 0, 0⟩ ⟨0, 0, 0, 0, 0, 0, 0, 0⟩ ⟨true, []⟩ ⟨true, []⟩ ⟨true, []⟩ ⟨true, []⟩ ⟨true, []⟩).outW = ⟨false, [0, 1, 7]⟩ := by kernel_rfl
theorem k15b : (Msg.mk 7 0 0 0 [] ⟨0, 0, 0, 0, 0, 0, 0, 0⟩ ⟨0, 0, 0, 0, 0, 0, 0, 0⟩ ⟨true, []⟩ ⟨true, []⟩ ⟨true, []⟩ ⟨true, []⟩ ⟨true, []⟩).isW = true := by kernel_rfl
theorem k15c : (Sw.mk ⟨true, []⟩ 0 false).wrote ⟨false, [0]⟩ = ⟨⟨false, [0]⟩, 1, false⟩ := by kernel_rfl
theorem k15d : (Sw.mk ⟨false, [0]⟩ 1 false).told decW = none := by kernel_rfl
theorem k15e : (Sw.mk ⟨false, [0]⟩ 1 false).nextW decW = ⟨⟨false, [0]⟩, 1, false⟩ := by kernel_rfl
theorem k15f : (Sw.mk ⟨false, [0]⟩ 1 false).wrote ⟨false, [1, 7]⟩ = ⟨⟨false, [0, 1, 7]⟩, 3, false⟩ := by kernel_rfl
theorem k15g : (Sw.mk ⟨false, [0, 1, 7]⟩ 3 false).told decW = some ⟨7, 0, 0, 0, [], Num.zero, Num.zero, By.no, By.no, By.no, By.no, By.no⟩ := by kernel_rfl
theorem k15h : (Sw.mk ⟨false, [0, 1, 7]⟩ 3 false).nextW decW = ⟨⟨false, []⟩, 3, false⟩ := by kernel_rfl
theorem k15i : (Rec.mk 1 [97] ⟨true, []⟩ ⟨0, 0, 0, 0, 0, 0, 0, 0⟩ ⟨0, 0, 0, 0, 0, 0, 0, 0⟩ ⟨true, []⟩ 0 0 0).outW = ⟨false, [1, 1, 97, 0, 0, 0, 0, 0, 0, 0, 0, 0, 0, 0, 0, 0, 0, 0, 0, 0, 0, 0, 0, 0, 0, 0, 0, 0, 0, 0]⟩ := by kernel_rfl
theorem k15j : (Rec.mk 1 [97] ⟨true, []⟩ ⟨0, 0, 0, 0, 0, 0, 0, 0⟩ ⟨0, 0, 0, 0, 0, 0, 0, 0⟩ ⟨true, []⟩ 0 0 0).ok = true := by kernel_rfl
theorem k15k : (readW ⟨false, [1, 1, 97, 0, 0, 0, 0, 0, 0, 0, 0, 0, 0, 0, 0, 0, 0, 0, 0, 0, 0, 0, 0, 0, 0, 0, 0, 0, 0, 0]⟩).isSome = true := by kernel_rfl
theorem k15l : (orZR (readW ⟨false, [1, 1, 97, 0, 0, 0, 0, 0, 0, 0, 0, 0, 0, 0, 0, 0, 0, 0, 0, 0, 0, 0, 0, 0, 0, 0, 0, 0, 0, 0]⟩)).name = [97] := by kernel_rfl
theorem k15m : (if ((3 : Nat) : Int) < 1 then ((3 : Nat) : Int) else 1) = 1 := by decide
set_option maxHeartbeats 4000000 in
theorem fn15 : ACalls Try.prog 15 [] [] (fun a h => a = .bool true ∧ h = []) := by
  refine run15 (Γ := G0 keep15 [(17, e17), (26, eNew), (28, e28), (30, eNextW decW), (32, eBad), (35, e35), (37, e37)]) (own := false) (kn := 0) (.cons ok17 in17 (.cons (okNew fn26) in26 (.cons ok28 in28 (.cons (ok30 ok20) in30 (.cons ok32 in32 (.cons ok35 in35 (.cons ok37 in37 .nil))))))) (Nat.le_of_ble_eq_true rfl) rfl (Nat.le_refl _) ?_
  dsimp only [c15, keep15, res15, e17, eNew, e28, eNextW, eBad, e35, e37, Num.eta, By.eta, msgD, swD, recD, Sw.A, Sw.eta, Rec.eta, Msg.eta, Msg.C, Rec.C, run, runOps, onER, doOp, noOp, ifB, onG, onGd, onB, onL, xfB, lookB, ↓fork_true, ↓fork_false, chkC, evc, vOnly, ev, evBin, evUn, evEq, evConv, evSlice, evApp, appSl, appMs, evCall, sfind, srcS, rdS, nilK, ctakeT0, eq1, eqs, shn, ngt, xv, xvs, xi, look, Go.Abs.put, trim, conj, both, argS, leafK, resv, one, one1, ofC, frzL, frzV, hasMs, hasMsL, hlen, hget, hset, hsnoc, htake, lget, ldrop, ltake, lset, lapp, lput, llen, lrep, cget, csub, cexp, exU8, exU32, exInt, cset, cput, capp, clen, toC, csubT, ctakeT, cdropT, celT, mulz, typed, ab?, ai?, au?, zeros, lay, lenS, offS, fulS, cutS, cutT, bnds, below, belowL, hbelow, sbelow, xfind, fits, eqS, eqH, eqO, loopK, sameS, sameH, SameL, Nat.beq, Nat.ble, Int.reduceToNat, Nat.reduceAdd, Nat.reduceMul, Nat.reduceSub, Int.reduceLT, Int.reduceLE, Int.reduceNeg, UInt64.reduceToNat, UInt32.reduceToNat, UInt8.reduceToNat, G0, GL, ev0, ev1, ev2, ev3, ev4, intD, u32D, u8D, boolD, strD, byD, numD, intsD, By.A, Num.C, sp0, s0f, objOf, peelB, startK, entryK, finB, allX, andE, GK, GKL, GR, onR, rfind, noR, fdShape, elT, allN, endR, retR, failK, rangeP, Nat.blt, Nat.succ, evP, l0D, l1D, l2D, frzI, frzR, ownF, frzC, frzA, frzJ, allFz, nestL]
  simp only [k15a, k15b, List.length_cons, List.length_nil, Nat.zero_add, Nat.reduceAdd, k15m, Int.toNat_one, List.take_succ_cons, List.take_zero, List.drop_succ_cons, List.drop_zero, k15c, k15d, k15e, k15f, k15g, k15h, k15i, k15j, k15k, k15l]
  dsimp only [orZ, Option.isSome, Bool.not_false, Bool.not_true, Msg.zero, fork_true, fork_false]
  simp [fork]
def e15 : SpE := ⟨true, ev0 (.bool true)⟩
theorem ok15 : SpE.ok Try.prog 15 e15 := ev0_ok rfl fn15
end Go.Abs

namespace Go.Abs
set_option maxRecDepth 100000

theorem u8_eq {x y : UInt8} (h : (x.toNat : Int) = y.toNat) : x = y := UInt8.toNat_inj.1 (by omega)
theorem u8_nat_int (n : Nat) : ((UInt8.ofNat n).toNat : Int) = (n : Int) % 256 := by
  have : UInt8.ofNat n = UInt8.ofInt (n : Int) := by
    apply UInt8.toNat_inj.1
    have := u8_ofInt (n : Int)
    rw [UInt8.toNat_ofNat']
    omega
  rw [this, u8_ofInt]
theorem be4_ofInt (n : Int) : be4 (UInt32.ofInt n) = [UInt8.ofInt (n / 2 ^ 24), UInt8.ofInt (n / 2 ^ 16), UInt8.ofInt (n / 2 ^ 8), UInt8.ofInt n] := by
  have h := u32_ofInt n
  have key : ∀ (k : Nat) (p : Int), (((UInt32.ofInt n).toNat : Int) / p) % 256 = (n / p) % 256 → k = (UInt32.ofInt n).toNat → True := fun _ _ _ _ => trivial
  simp only [be4, List.cons.injEq, and_true]
  refine ⟨u8_eq ?_, u8_eq ?_, u8_eq ?_, u8_eq ?_⟩
  · rw [u8_nat_int, u8_ofInt]; omega
  · rw [u8_nat_int, u8_ofInt]; omega
  · rw [u8_nat_int, u8_ofInt]; omega
  · rw [u8_nat_int, u8_ofInt]; omega
theorem atB8 (x : Num) : atB x 8 = be4 x.a1 ++ be4 x.a0 := rfl
theorem atB4 (x : Num) : atB x 4 = be4 x.a0 := rfl
theorem atB1 (x : Num) : atB x 1 = [UInt8.ofNat x.a0.toNat] := rfl
theorem atB1_from {n : Int} (h : 0 ≤ n) : atB (Num.from n) 1 = [UInt8.ofInt n] := by
  rw [atB1, Num.from, if_neg (by omega)]
  have h := u32_ofInt n
  congr 1
  exact u8_eq (by rw [u8_nat_int, u8_ofInt]; simp only []; omega)
theorem eight8 (n : Int) : eightTo n 8 = [UInt8.ofInt (n / 2 ^ 56), UInt8.ofInt (n / 2 ^ 48), UInt8.ofInt (n / 2 ^ 40), UInt8.ofInt (n / 2 ^ 32), UInt8.ofInt (n / 2 ^ 24), UInt8.ofInt (n / 2 ^ 16), UInt8.ofInt (n / 2 ^ 8), UInt8.ofInt n] := by
  simp [eightTo]
theorem atB8_from {n : Int} (h : 0 ≤ n) : atB (Num.from n) 8 = eightTo n 8 := by
  rw [atB8, eight8, Num.from, if_neg (by omega), be4_ofInt, be4_ofInt]
  simp only [List.cons_append, List.nil_append]
  rw [show n / 2 ^ 32 / 2 ^ 24 = n / 2 ^ 56 by omega, show n / 2 ^ 32 / 2 ^ 16 = n / 2 ^ 48 by omega, show n / 2 ^ 32 / 2 ^ 8 = n / 2 ^ 40 by omega]
/-- A field that is there has the document's bytes. -/
theorem fd_bytes (m : Msg) (h : m.rightR = true) (j : Nat) (hj : j < 11) (hh : m.has (j + 1) = true) : (m.fd j).b.l = (m.bytesR (ilit (j + 1))).l ∧ (m.fd j).k = ilit (j + 1) := by
  simp only [Msg.rightR, Msg.okR, Bool.and_eq_true, Bool.or_eq_true, decide_eq_true_eq, beq_iff_eq, Bool.not_eq_true', decide_eq_false_iff_not] at h
  obtain ⟨_, hp1, hp2, hn, _, _, h1, h2, h3, h4, h5, hc, he1, he2⟩ := h
  rcases j with _ | _ | _ | _ | _ | _ | _ | _ | _ | _ | _ | j
  · refine ⟨?_, rfl⟩
    simp only [Msg.has, Bool.not_eq_true', beq_eq_false_iff_ne, ne_eq] at hh
    show (wholeB m.proto 1).l = [UInt8.ofInt m.proto]
    rw [wholeB, if_neg hh]; exact atB1_from (by omega)
  · exact ⟨rfl, rfl⟩
  · refine ⟨?_, rfl⟩
    simp only [Msg.has, Bool.not_eq_true', Num.isZ_eq, decide_eq_false_iff_not] at hh
    show (fourB m.a).l = be4 m.a.a0
    rw [fourB, if_neg hh]
  · refine ⟨?_, rfl⟩
    simp only [Msg.has, Bool.not_eq_true', Num.isZ_eq, decide_eq_false_iff_not] at hh
    show (fourB m.b).l = be4 m.b.a0
    rw [fourB, if_neg hh]
  · exact ⟨rfl, rfl⟩
  · exact ⟨rfl, rfl⟩
  · exact ⟨rfl, rfl⟩
  · exact ⟨rfl, rfl⟩
  · exact ⟨rfl, rfl⟩
  · refine ⟨?_, rfl⟩
    simp only [Msg.has, Bool.not_eq_true', beq_eq_false_iff_ne, ne_eq] at hh
    show (wholeB m.channel 8).l = eightTo m.channel 8
    rw [wholeB, if_neg hh]; exact atB8_from (by omega)
  · refine ⟨?_, rfl⟩
    simp only [Msg.has, Bool.not_eq_true', beq_eq_false_iff_ne, ne_eq] at hh
    show (wholeB m.e 1).l = [UInt8.ofInt m.e]
    rw [wholeB, if_neg hh]; exact atB1_from (by omega)
  · omega
theorem enc_eq (m : Msg) (h : m.rightR = true) : ∀ n, n ≤ 11 → m.encW n = m.encTo n
  | 0, _ => rfl
  | n + 1, hn => by
    have ih := enc_eq m h n (by omega)
    simp only [Msg.encW, Msg.encTo]
    rw [fd_has m n (by omega), ih]
    cases hh : m.has (n + 1) with
    | false => rfl
    | true =>
      obtain ⟨e1, e2⟩ := fd_bytes m h n (by omega) hh
      simp only
      rw [e1, e2]
theorem is_eq (m : Msg) : m.isW = m.isR := by
  unfold Msg.isW Msg.isR
  rw [right_eq]
  cases h : m.rightR with
  | false => rfl
  | true => rw [enc_eq m h 11 (Nat.le_refl _)]
theorem out_eq (m : Msg) : m.outW = m.outR := by
  unfold Msg.outW Msg.outR
  rw [is_eq]
  unfold Msg.isR
  cases h : m.rightR with
  | false => rfl
  | true => rw [enc_eq m h 11 (Nat.le_refl _)] <;> rfl
end Go.Abs

namespace Go.Abs
set_option maxRecDepth 100000

/-! ### Numbers of bytes -/
def up8 (k : Nat) (b : UInt8) : UInt32 := UInt32.ofNat ((UInt32.ofNat b.toNat).toNat * 2 ^ k)
def le4 (b3 b2 b1 b0 : UInt8) : UInt32 := UInt32.ofNat (b3.toNat * 2 ^ 24 + b2.toNat * 2 ^ 16 + b1.toNat * 2 ^ 8 + b0.toNat)
theorem up8_nat (k : Nat) (b : UInt8) (hk : k ≤ 24) : (up8 k b).toNat = b.toNat * 2 ^ k := by
  have hb : b.toNat < 256 := b.toNat_lt
  have h2 : 2 ^ k ≤ 2 ^ 24 := Nat.pow_le_pow_right (by omega) hk
  have h3 : b.toNat * 2 ^ k ≤ 255 * 2 ^ 24 := Nat.mul_le_mul (by omega) h2
  rw [up8, UInt32.toNat_ofNat_of_lt' (show b.toNat < 2 ^ 32 by omega), UInt32.toNat_ofNat_of_lt' (show _ < 2 ^ 32 by omega)]
theorem or4 (b3 b2 b1 b0 : UInt8) : ((((0 : UInt32) ||| up8 24 b3) ||| up8 16 b2) ||| up8 8 b1) ||| up8 0 b0 = le4 b3 b2 b1 b0 := by
  have h3 : b3.toNat < 256 := b3.toNat_lt
  have h2 : b2.toNat < 256 := b2.toNat_lt
  have h1 : b1.toNat < 256 := b1.toNat_lt
  have h0 : b0.toNat < 256 := b0.toNat_lt
  apply UInt32.toNat_inj.1
  rw [UInt32.toNat_or, UInt32.toNat_or, UInt32.toNat_or, UInt32.toNat_or, up8_nat _ _ (by omega), up8_nat _ _ (by omega), up8_nat _ _ (by omega), up8_nat _ _ (by omega), le4, UInt32.toNat_ofNat_of_lt' (show _ < 2 ^ 32 by omega)]
  have e0 : (0 : UInt32).toNat ||| b3.toNat * 2 ^ 24 = b3.toNat * 2 ^ 24 := by
    rw [show (0 : UInt32).toNat = 0 from rfl, Nat.zero_or]
  have e1 := Nat.two_pow_add_eq_or_of_lt (i := 24) (b := b2.toNat * 2 ^ 16) (by omega) b3.toNat
  have e2 := Nat.two_pow_add_eq_or_of_lt (i := 16) (b := b1.toNat * 2 ^ 8) (by omega) (b3.toNat * 2 ^ 8 + b2.toNat)
  have e3 := Nat.two_pow_add_eq_or_of_lt (i := 8) (b := b0.toNat * 2 ^ 0) (by omega) (b3.toNat * 2 ^ 16 + b2.toNat * 2 ^ 8 + b1.toNat)
  rw [e0, show b3.toNat * 2 ^ 24 = 2 ^ 24 * b3.toNat by omega, ← e1, show 2 ^ 24 * b3.toNat + b2.toNat * 2 ^ 16 = 2 ^ 16 * (b3.toNat * 2 ^ 8 + b2.toNat) by omega, ← e2,
    show 2 ^ 16 * (b3.toNat * 2 ^ 8 + b2.toNat) + b1.toNat * 2 ^ 8 = 2 ^ 8 * (b3.toNat * 2 ^ 16 + b2.toNat * 2 ^ 8 + b1.toNat) by omega, ← e3]
  omega
theorem le4_be4 (w : UInt32) : le4 (UInt8.ofNat (w.toNat / 2 ^ 24)) (UInt8.ofNat (w.toNat / 2 ^ 16)) (UInt8.ofNat (w.toNat / 2 ^ 8)) (UInt8.ofNat w.toNat) = w := by
  have hw := w.toNat_lt
  apply UInt32.toNat_inj.1
  rw [le4]
  simp only [UInt8.toNat_ofNat']
  rw [UInt32.toNat_ofNat_of_lt' (show _ < 2 ^ 32 by omega)]
  omega
theorem read1 (x : UInt8) : Num.read [x] = ⟨UInt32.ofNat x.toNat, 0, 0, 0, 0, 0, 0, 0⟩ := by
  have e : Num.read [x] = ⟨(0 : UInt32) ||| up8 0 x, 0, 0, 0, 0, 0, 0, 0⟩ := by simp [Num.read, readTo, readStep, Num.of, up8]
  rw [e]
  congr 1
  apply UInt32.toNat_inj.1
  have hx := x.toNat_lt
  rw [UInt32.toNat_or, up8_nat _ _ (by omega), UInt32.toNat_ofNat_of_lt' (show x.toNat < 2 ^ 32 by omega), show (0 : UInt32).toNat = 0 from rfl, Nat.zero_or]
  omega
theorem read4 (b3 b2 b1 b0 : UInt8) : Num.read [b3, b2, b1, b0] = ⟨le4 b3 b2 b1 b0, 0, 0, 0, 0, 0, 0, 0⟩ := by
  have e : Num.read [b3, b2, b1, b0] = ⟨((((0 : UInt32) ||| up8 24 b3) ||| up8 16 b2) ||| up8 8 b1) ||| up8 0 b0, 0, 0, 0, 0, 0, 0, 0⟩ := by simp [Num.read, readTo, readStep, Num.of, up8]
  rw [e, or4]
theorem read8 (c3 c2 c1 c0 b3 b2 b1 b0 : UInt8) : Num.read [c3, c2, c1, c0, b3, b2, b1, b0] = ⟨le4 b3 b2 b1 b0, le4 c3 c2 c1 c0, 0, 0, 0, 0, 0, 0⟩ := by
  have e : Num.read [c3, c2, c1, c0, b3, b2, b1, b0] = ⟨((((0 : UInt32) ||| up8 24 b3) ||| up8 16 b2) ||| up8 8 b1) ||| up8 0 b0, ((((0 : UInt32) ||| up8 24 c3) ||| up8 16 c2) ||| up8 8 c1) ||| up8 0 c0, 0, 0, 0, 0, 0, 0⟩ := by simp [Num.read, readTo, readStep, Num.of, up8]
  rw [e, or4, or4]
theorem read_be4 (w : UInt32) : Num.read (be4 w) = ⟨w, 0, 0, 0, 0, 0, 0, 0⟩ := by rw [be4, read4, le4_be4]
theorem read_at8 (x : Num) : Num.read (atB x 8) = ⟨x.a0, x.a1, 0, 0, 0, 0, 0, 0⟩ := by
  rw [atB8, be4, be4]
  simp only [List.cons_append, List.nil_append]
  rw [read8, le4_be4, le4_be4]
theorem i64_eq (x : Num) : x.i64 = w64 ((x.a0.toNat : Int) + (x.a1.toNat : Int) * 2 ^ 32) := by
  have h0 := x.a0.toNat_lt
  have h1 := x.a1.toNat_lt
  rw [Num.i64]
  congr 1
  rw [UInt64.toNat_or, UInt64.toNat_ofNat_of_lt' (show x.a0.toNat < 2 ^ 64 by omega), UInt64.toNat_ofNat_of_lt' (show x.a1.toNat < 2 ^ 64 by omega), show min 32 64 = 32 from rfl, UInt64.toNat_ofNat_of_lt' (show x.a1.toNat * 2 ^ 32 < 2 ^ 64 by omega)]
  have e := Nat.two_pow_add_eq_or_of_lt (i := 32) (b := x.a0.toNat) (by omega) x.a1.toNat
  rw [Nat.or_comm, show x.a1.toNat * 2 ^ 32 = 2 ^ 32 * x.a1.toNat by omega, ← e]
  omega
theorem i64_byte (x : UInt8) : (Num.read [x]).i64 = (x.toNat : Int) := by
  have hx := x.toNat_lt
  rw [read1, i64_eq]
  simp only
  rw [UInt32.toNat_ofNat_of_lt' (show x.toNat < 2 ^ 32 by omega), w64_in (by simp; omega)]
  simp
theorem i64_from {n : Int} (h : 0 ≤ n ∧ n < 9223372036854775808) : (Num.read (atB (Num.from n) 8)).i64 = n := by
  rw [read_at8, i64_eq, Num.from, if_neg (by omega)]
  simp only [u32_ofInt]
  rw [w64_in (by omega)]; omega
theorem i64_lt (x : Num) : x.i64 < 9223372036854775808 := by
  rw [i64_eq, w64, IntKind.wrap_i64]
  omega
theorem ior_step {n : Int} (h : 0 ≤ n ∧ n < 36028797018963968) (y : UInt8) : ior (w64 (n * 2 ^ 8)) (y.toNat : Int) = n * 256 + y.toNat := by
  have hy : y.toNat < 256 := y.toNat_lt
  obtain ⟨k, rfl⟩ : ∃ k : Nat, n = k := ⟨n.toNat, by omega⟩
  have e0 : w64 ((k : Int) * 2 ^ 8) = ((k * 256 : Nat) : Int) := by rw [w64_in (by omega)]; omega
  have e : (BitVec.ofInt 64 ((k * 256 : Nat) : Int) ||| BitVec.ofInt 64 (y.toNat : Int)).toNat = k * 256 + y.toNat := by
    have := Nat.two_pow_add_eq_or_of_lt (i := 8) hy k
    rw [BitVec.toNat_or, BitVec.ofInt_natCast, BitVec.ofInt_natCast, BitVec.toNat_ofNat, BitVec.toNat_ofNat, Nat.mod_eq_of_lt (by omega), Nat.mod_eq_of_lt (by omega), Nat.mul_comm, show 256 = 2 ^ 8 from rfl, ← this]
  rw [e0, ior, e, wr64 (by omega)]; omega
theorem numR_byte (x : UInt8) : numR [x] = (x.toNat : Int) := by
  show ior (w64 (0 * 2 ^ 8)) (x.toNat : Int) = _
  rw [ior_step (by omega)]; omega
theorem numR_eight {n : Int} (h : 0 ≤ n ∧ n < 9223372036854775808) : numR (eightTo n 8) = n := by
  rw [eight8]
  have e1 : numTo [UInt8.ofInt (n / 2 ^ 56), UInt8.ofInt (n / 2 ^ 48), UInt8.ofInt (n / 2 ^ 40), UInt8.ofInt (n / 2 ^ 32), UInt8.ofInt (n / 2 ^ 24), UInt8.ofInt (n / 2 ^ 16), UInt8.ofInt (n / 2 ^ 8), UInt8.ofInt n] 8
      = ior (w64 (ior (w64 (ior (w64 (ior (w64 (ior (w64 (ior (w64 (ior (w64 (ior (w64 (0 * 2 ^ 8)) ((UInt8.ofInt (n / 2 ^ 56)).toNat : Int) * 2 ^ 8)) ((UInt8.ofInt (n / 2 ^ 48)).toNat : Int) * 2 ^ 8)) ((UInt8.ofInt (n / 2 ^ 40)).toNat : Int) * 2 ^ 8)) ((UInt8.ofInt (n / 2 ^ 32)).toNat : Int) * 2 ^ 8)) ((UInt8.ofInt (n / 2 ^ 24)).toNat : Int) * 2 ^ 8)) ((UInt8.ofInt (n / 2 ^ 16)).toNat : Int) * 2 ^ 8)) ((UInt8.ofInt (n / 2 ^ 8)).toNat : Int) * 2 ^ 8)) ((UInt8.ofInt n).toNat : Int) := rfl
  show numTo _ 8 = n
  rw [e1]
  have f1 := u8_ofInt (n / 2 ^ 56)
  have f2 := u8_ofInt (n / 2 ^ 48)
  have f3 := u8_ofInt (n / 2 ^ 40)
  have f4 := u8_ofInt (n / 2 ^ 32)
  have f5 := u8_ofInt (n / 2 ^ 24)
  have f6 := u8_ofInt (n / 2 ^ 16)
  have f7 := u8_ofInt (n / 2 ^ 8)
  have f8 := u8_ofInt n
  have s1 : ior (w64 (0 * 2 ^ 8)) ((UInt8.ofInt (n / 2 ^ 56)).toNat : Int) = n / 2 ^ 56 := by rw [ior_step (by omega)]; omega
  have s2 : ior (w64 (n / 2 ^ 56 * 2 ^ 8)) ((UInt8.ofInt (n / 2 ^ 48)).toNat : Int) = n / 2 ^ 48 := by rw [ior_step (by omega)]; omega
  have s3 : ior (w64 (n / 2 ^ 48 * 2 ^ 8)) ((UInt8.ofInt (n / 2 ^ 40)).toNat : Int) = n / 2 ^ 40 := by rw [ior_step (by omega)]; omega
  have s4 : ior (w64 (n / 2 ^ 40 * 2 ^ 8)) ((UInt8.ofInt (n / 2 ^ 32)).toNat : Int) = n / 2 ^ 32 := by rw [ior_step (by omega)]; omega
  have s5 : ior (w64 (n / 2 ^ 32 * 2 ^ 8)) ((UInt8.ofInt (n / 2 ^ 24)).toNat : Int) = n / 2 ^ 24 := by rw [ior_step (by omega)]; omega
  have s6 : ior (w64 (n / 2 ^ 24 * 2 ^ 8)) ((UInt8.ofInt (n / 2 ^ 16)).toNat : Int) = n / 2 ^ 16 := by rw [ior_step (by omega)]; omega
  have s7 : ior (w64 (n / 2 ^ 16 * 2 ^ 8)) ((UInt8.ofInt (n / 2 ^ 8)).toNat : Int) = n / 2 ^ 8 := by rw [ior_step (by omega)]; omega
  have s8 : ior (w64 (n / 2 ^ 8 * 2 ^ 8)) ((UInt8.ofInt n).toNat : Int) = n := by rw [ior_step (by omega)]; omega
  rw [s1, s2, s3, s4, s5, s6, s7, s8]

/-! ### The program's reader on what was written -/
theorem fits_le {z bad : Bool} {l : List UInt8} {n : Nat} (h : n ≤ l.length) : (Rd.mk ⟨z, l⟩ bad).fits n = true := by
  unfold Rd.fits
  rw [decide_eq_false (by omega), decide_eq_false (by simp; omega)]; rfl
theorem got_le' {z bad : Bool} {l : List UInt8} {n : Nat} (h : n ≤ l.length) : (Rd.mk ⟨z, l⟩ bad).got n = ⟨z, l.take n⟩ := by
  rw [Rd.got, fits_le h]; simp only [Int.toNat_natCast]
theorem next_le' {z bad : Bool} {l : List UInt8} {n : Nat} (h : n ≤ l.length) : (Rd.mk ⟨z, l⟩ bad).next n = ⟨⟨z, l.drop n⟩, bad⟩ := by
  rw [Rd.next, fits_le h]; simp only [Int.toNat_natCast]
theorem next_one {z bad : Bool} (x : UInt8) (l : List UInt8) : (Rd.mk ⟨z, x :: l⟩ bad).next 1 = ⟨⟨z, l⟩, bad⟩ := next_le' (n := 1) (by simp)
theorem num_one {z bad : Bool} (x : UInt8) (l : List UInt8) : ((Rd.mk ⟨z, x :: l⟩ bad).num 1).i64 = (x.toNat : Int) := by
  rw [Rd.num, show (1 : Int) = ((1 : Nat) : Int) from rfl, got_le' (by simp)]
  exact i64_byte x
theorem long_app {z bad : Bool} {x : UInt8} {b : List UInt8} (l : List UInt8) (h : x.toNat = b.length) : (Rd.mk ⟨z, x :: (b ++ l)⟩ bad).long = ⟨z, b⟩ ∧ (Rd.mk ⟨z, x :: (b ++ l)⟩ bad).nextL = ⟨⟨z, l⟩, bad⟩ := by
  rw [Rd.long, Rd.nextL, num_one, next_one, h, got_le' (by simp), next_le' (by simp)]
  simp

/-! ### Fields in a row -/
def fieldsB : List (Nat × List UInt8) → List UInt8
  | [] => []
  | f :: r => UInt8.ofInt (f.1 : Int) :: UInt8.ofInt (f.2.length : Int) :: (f.2 ++ fieldsB r)
def fieldsOK (fs : List (Nat × List UInt8)) : Prop := ∀ f ∈ fs, 1 ≤ f.1 ∧ f.1 ≤ 11 ∧ f.2.length < 256
theorem fieldsB_app (a b : List (Nat × List UInt8)) : fieldsB (a ++ b) = fieldsB a ++ fieldsB b := by
  induction a with
  | nil => rfl
  | cons f a ih => simp only [List.cons_append, fieldsB, ih, List.append_assoc]
theorem u8_small {n : Nat} (h : n < 256) : (UInt8.ofInt (n : Int)).toNat = n := by have := u8_ofInt (n : Int); omega
theorem decLoop_fields (z : Bool) : ∀ (fs : List (Nat × List UInt8)) (n : Nat) (m : Msg), fs.length ≤ n → fieldsOK fs → decLoop n m ⟨⟨z, fieldsB fs⟩, false⟩ = some (fs.foldl (fun m f => m.put (f.1 : Int) ⟨z, f.2⟩) m)
  | [], n, m, _, _ => by cases n <;> rfl
  | f :: r, 0, m, h, _ => by simp at h
  | f :: r, n + 1, m, h, hok => by
    obtain ⟨h1, h2, h3⟩ := hok f (by simp)
    obtain ⟨l1, l2⟩ := long_app (z := z) (bad := false) (x := UInt8.ofInt (f.2.length : Int)) (b := f.2) (fieldsB r) (u8_small h3)
    have e : decLoop (n + 1) m ⟨⟨z, fieldsB (f :: r)⟩, false⟩ = decLoop n (m.put (f.1 : Int) ⟨z, f.2⟩) ⟨⟨z, fieldsB r⟩, false⟩ := by
      rw [fieldsB, decLoop]
      rw [num_one, next_one, l1, l2, u8_small (by omega)]
      simp only [List.isEmpty_cons, Bool.or_self]
      rw [decide_eq_true (show (1 : Int) ≤ (f.1 : Int) by omega), decide_eq_true (show (f.1 : Int) ≤ 11 by omega)]
      rfl
    rw [e, decLoop_fields z r n _ (by simp at h; omega) (fun g hg => hok g (by simp [hg]))]
    rfl
theorem decLoopR_fields (z : Bool) : ∀ (fs : List (Nat × List UInt8)) (n : Nat) (m : Msg) (pre : List UInt8), fs.length ≤ n → fieldsOK fs → decLoopR ⟨z, pre ++ fieldsB fs⟩ n m pre.length = fs.foldl (fun m f => m.setR (f.1 : Int) ⟨z, f.2⟩) m
  | [], n, m, pre, _, _ => by
    cases n with
    | zero => rfl
    | succ n =>
      rw [decLoopR, decide_eq_false (show ¬ pre.length + 2 ≤ (pre ++ fieldsB []).length by simp [fieldsB])]
      rfl
  | f :: r, 0, m, pre, h, _ => by simp at h
  | f :: r, n + 1, m, pre, h, hok => by
    obtain ⟨h1, h2, h3⟩ := hok f (by simp)
    have hb : (pre ++ fieldsB (f :: r)) = (pre ++ (UInt8.ofInt (f.1 : Int) :: UInt8.ofInt (f.2.length : Int) :: f.2)) ++ fieldsB r := by
      simp [fieldsB]
    have g0 : (pre ++ fieldsB (f :: r)).getD pre.length 0 = UInt8.ofInt (f.1 : Int) := by simp [fieldsB, List.getD_eq_getElem?_getD]
    have g1 : (pre ++ fieldsB (f :: r)).getD (pre.length + 1) 0 = UInt8.ofInt (f.2.length : Int) := by
      rw [List.getD_eq_getElem?_getD, List.getElem?_append_right (by omega)]; simp [fieldsB]
    have g2 : ((pre ++ fieldsB (f :: r)).drop (pre.length + 2)).take f.2.length = f.2 := by
      rw [List.drop_append, List.drop_eq_nil_of_le (by omega), show pre.length + 2 - pre.length = 2 by omega]; simp [fieldsB]
    have e : decLoopR ⟨z, pre ++ fieldsB (f :: r)⟩ (n + 1) m pre.length = decLoopR ⟨z, pre ++ fieldsB (f :: r)⟩ n (m.setR (f.1 : Int) ⟨z, f.2⟩) (pre.length + 2 + f.2.length) := by
      rw [decLoopR]
      simp only [g0, g1]
      rw [u8_small h3, u8_small (by omega), g2, decide_eq_true (show pre.length + 2 ≤ _ by simp [fieldsB]), decide_eq_true (show pre.length + 2 + f.2.length ≤ _ by simp [fieldsB]; omega)]
      rfl
    have e2 := decLoopR_fields z r n (m.setR (f.1 : Int) ⟨z, f.2⟩) (pre ++ (UInt8.ofInt (f.1 : Int) :: UInt8.ofInt (f.2.length : Int) :: f.2)) (by simp at h; omega) (fun g hg => hok g (by simp [hg]))
    rw [e, hb, show pre.length + 2 + f.2.length = (pre ++ (UInt8.ofInt (f.1 : Int) :: UInt8.ofInt (f.2.length : Int) :: f.2)).length by simp; omega, e2]
    rfl
end Go.Abs

namespace Go.Abs
set_option maxRecDepth 100000

/-! ### Messages but for what a slice of nothing is -/
def By.full (b : By) : By := ⟨false, b.l⟩
def Msg.norm (m : Msg) : Msg := { m with salt := m.salt.full, sea := m.sea.full, tag := m.tag.full, tok := m.tok.full, rcd := m.rcd.full }
theorem full_eq {a b : By} : (a.l == b.l) = true ↔ a.full = b.full := by
  rw [beq_iff_eq, By.full, By.full]
  constructor
  · intro h; rw [h]
  · intro h; have := congrArg By.l h; exact this
theorem same_norm (m n : Msg) : m.same n = true ↔ m.norm = n.norm := by
  unfold Msg.same
  simp only [Bool.and_eq_true, full_eq, decide_eq_true_eq]
  simp only [beq_iff_eq]
  constructor
  · rintro ⟨h1, h2, h3, h4, h5, h6, h7, h8, h9, h10, h11, h12⟩
    unfold Msg.norm
    rw [h1, h2, h3, h4, h5, h6, h7, h8, h9, h10, h11, h12]
  · intro h
    have e := fun {α : Type} (f : Msg → α) => congrArg f h
    exact ⟨e Msg.kind, e Msg.proto, e Msg.channel, e Msg.e, e Msg.name, e Msg.a, e Msg.b, e Msg.salt, e Msg.sea, e Msg.tag, e Msg.tok, e Msg.rcd⟩
theorem fd_norm (m : Msg) (j : Nat) : (m.norm.fd j).b.l = (m.fd j).b.l ∧ (m.norm.fd j).ok = (m.fd j).ok ∧ (m.norm.fd j).k = (m.fd j).k := by
  rcases j with _ | _ | _ | _ | _ | _ | _ | _ | _ | _ | j <;> exact ⟨rfl, rfl, rfl⟩
theorem wantL_norm (m : Msg) : wantL m.norm = wantL m := rfl
theorem goodTo_norm (m : Msg) : ∀ n, m.norm.goodTo n = m.goodTo n
  | 0 => rfl
  | n + 1 => by
    obtain ⟨h1, h2, h3⟩ := fd_norm m n
    simp only [Msg.goodTo, goodTo_norm m n, Msg.good, h1, h2, h3, wantL_norm]
theorem rightW_norm (m : Msg) : m.norm.rightW = m.rightW := by
  unfold Msg.rightW
  rw [goodTo_norm]; rfl
theorem encW_norm (m : Msg) : ∀ n, m.norm.encW n = m.encW n
  | 0 => rfl
  | n + 1 => by
    obtain ⟨h1, h2, h3⟩ := fd_norm m n
    simp only [Msg.encW, encW_norm m n, h1, h3]
theorem isW_norm (m : Msg) : m.norm.isW = m.isW := by unfold Msg.isW; rw [rightW_norm, encW_norm]
theorem outW_norm (m : Msg) : m.norm.outW = m.outW := by unfold Msg.outW; rw [isW_norm, encW_norm]
theorem isW_same {m n : Msg} (h : m.norm = n.norm) : m.isW = n.isW := by rw [← isW_norm, h, isW_norm]
theorem outW_same {m n : Msg} (h : m.norm = n.norm) : m.outW = n.outW := by rw [← outW_norm, h, outW_norm]

/-! ### A message's fields in a row -/
def Msg.ne (m : Msg) (j : Nat) : Bool := decide (0 < ((m.fd j).b.l.length : Int))
def Msg.flds (m : Msg) (n : Nat) : List (Nat × List UInt8) := (List.range n).filterMap fun j => match m.ne j with | true => some (j + 1, (m.fd j).b.l) | false => none
theorem flds_succ (m : Msg) (n : Nat) : m.flds (n + 1) = m.flds n ++ (match m.ne n with | true => [(n + 1, (m.fd n).b.l)] | false => []) := by
  unfold Msg.flds
  rw [List.range_succ, List.filterMap_append]
  cases h : m.ne n <;> simp [h]
theorem fd_k (m : Msg) {j : Nat} (hj : j < 11) : (m.fd j).k = ((j + 1 : Nat) : Int) := by
  rcases j with _ | _ | _ | _ | _ | _ | _ | _ | _ | _ | _ | j <;> first | rfl | omega
theorem encW_flds (m : Msg) : ∀ n, n ≤ 11 → m.encW n = UInt8.ofInt m.kind :: fieldsB (m.flds n)
  | 0, _ => rfl
  | n + 1, hn => by
    rw [flds_succ, fieldsB_app]
    simp only [Msg.encW]
    rw [encW_flds m n (by omega), fd_k m (by omega), show decide (0 < ((m.fd n).b.l.length : Int)) = m.ne n from rfl]
    cases m.ne n with
    | true => simp [fieldB, fieldsB]
    | false => simp [fieldsB]
theorem flds_len (m : Msg) : ∀ n, (m.flds n).length ≤ n
  | 0 => by simp [Msg.flds]
  | n + 1 => by
    rw [flds_succ, List.length_append]
    have := flds_len m n
    cases m.ne n <;> simp <;> omega
theorem flds_ok (m : Msg) (h : m.goodTo 11 = true) : fieldsOK (m.flds 11) := by
  intro f hf
  unfold Msg.flds at hf
  obtain ⟨j, hj, e⟩ := List.mem_filterMap.1 hf
  have hj := List.mem_range.1 hj
  cases hn : m.ne j with
  | false => rw [hn] at e; cases e
  | true =>
    rw [hn] at e
    cases e
    have := m.fd_le h j hj
    exact ⟨by simp, by simp; omega, by simp only; omega⟩

/-! ### What the readers make of the fields -/
def setIf (c : Bool) (m x : Msg) : Msg := if c = true then x else m
def Msg.upTo (m z : Msg) (nl : Bool) : Nat → Msg
  | 0 => z
  | n + 1 => setIf (m.ne n) (m.upTo z nl n) ((m.upTo z nl n).put ((n + 1 : Nat) : Int) ⟨nl, (m.fd n).b.l⟩)
def Msg.upToR (m z : Msg) (nl : Bool) : Nat → Msg
  | 0 => z
  | n + 1 => setIf (m.ne n) (m.upToR z nl n) ((m.upToR z nl n).setR ((n + 1 : Nat) : Int) ⟨nl, (m.fd n).b.l⟩)
theorem fold_upTo (m z : Msg) (nl : Bool) : ∀ n, (m.flds n).foldl (fun m f => m.put (f.1 : Int) ⟨nl, f.2⟩) z = m.upTo z nl n
  | 0 => rfl
  | n + 1 => by
    rw [flds_succ, List.foldl_append, fold_upTo m z nl n, Msg.upTo, setIf]
    cases m.ne n <;> rfl
theorem fold_upToR (m z : Msg) (nl : Bool) : ∀ n, (m.flds n).foldl (fun m f => m.setR (f.1 : Int) ⟨nl, f.2⟩) z = m.upToR z nl n
  | 0 => rfl
  | n + 1 => by
    rw [flds_succ, List.foldl_append, fold_upToR m z nl n, Msg.upToR, setIf]
    cases m.ne n <;> rfl
theorem setIf_get {α : Type} (f : Msg → α) (c : Bool) (m x : Msg) : f (setIf c m x) = if c = true then f x else f m := by cases c <;> rfl
theorem put_get {α : Type} (f : Msg → α) (m : Msg) (k : Int) (b : By) : f (m.put k b) =
  if k = 1 then f { m with proto := ((Rd.mk b false).num 1).i64 } else if k = 2 then f { m with name := b.l } else if k = 3 then f { m with a := (Rd.mk b false).num 4 } else if k = 4 then f { m with b := (Rd.mk b false).num 4 }
  else if k = 5 then f { m with salt := b } else if k = 6 then f { m with sea := b } else if k = 7 then f { m with tag := b } else if k = 8 then f { m with tok := b } else if k = 9 then f { m with rcd := b }
  else if k = 10 then f { m with channel := ((Rd.mk b false).num 8).i64 } else if k = 11 then f { m with e := ((Rd.mk b false).num 1).i64 } else f m := by
  unfold Msg.put; simp only [apply_ite f]
theorem setR_get {α : Type} (f : Msg → α) (m : Msg) (k : Int) (b : By) : f (m.setR k b) =
  if k = 1 then f { m with proto := numR b.l } else if k = 2 then f { m with name := b.l } else if k = 3 then f { m with a := Num.read (cut32 b.l) } else if k = 4 then f { m with b := Num.read (cut32 b.l) }
  else if k = 5 then f { m with salt := ⟨false, b.l⟩ } else if k = 6 then f { m with sea := ⟨false, b.l⟩ } else if k = 7 then f { m with tag := ⟨false, b.l⟩ } else if k = 8 then f { m with tok := ⟨false, b.l⟩ } else if k = 9 then f { m with rcd := ⟨false, b.l⟩ }
  else if k = 10 then f { m with channel := numR b.l } else if k = 11 then f { m with e := numR b.l } else f m := by
  unfold Msg.setR; simp only [apply_ite f]
theorem upTo_kind (m z : Msg) (nl : Bool) : (m.upTo z nl 11).kind = z.kind := by simp [Msg.upTo, setIf_get Msg.kind, put_get Msg.kind]
theorem upTo_proto (m z : Msg) (nl : Bool) : (m.upTo z nl 11).proto = if m.ne 0 = true then ((Rd.mk ⟨nl, (m.fd 0).b.l⟩ false).num 1).i64 else z.proto := by simp [Msg.upTo, setIf_get Msg.proto, put_get Msg.proto]
theorem upTo_name (m z : Msg) (nl : Bool) : (m.upTo z nl 11).name = if m.ne 1 = true then (m.fd 1).b.l else z.name := by simp [Msg.upTo, setIf_get Msg.name, put_get Msg.name]
theorem upTo_a (m z : Msg) (nl : Bool) : (m.upTo z nl 11).a = if m.ne 2 = true then (Rd.mk ⟨nl, (m.fd 2).b.l⟩ false).num 4 else z.a := by simp [Msg.upTo, setIf_get Msg.a, put_get Msg.a]
theorem upTo_b (m z : Msg) (nl : Bool) : (m.upTo z nl 11).b = if m.ne 3 = true then (Rd.mk ⟨nl, (m.fd 3).b.l⟩ false).num 4 else z.b := by simp [Msg.upTo, setIf_get Msg.b, put_get Msg.b]
theorem upTo_channel (m z : Msg) (nl : Bool) : (m.upTo z nl 11).channel = if m.ne 9 = true then ((Rd.mk ⟨nl, (m.fd 9).b.l⟩ false).num 8).i64 else z.channel := by simp [Msg.upTo, setIf_get Msg.channel, put_get Msg.channel]
theorem upTo_e (m z : Msg) (nl : Bool) : (m.upTo z nl 11).e = if m.ne 10 = true then ((Rd.mk ⟨nl, (m.fd 10).b.l⟩ false).num 1).i64 else z.e := by simp [Msg.upTo, setIf_get Msg.e, put_get Msg.e]
theorem upTo_salt (m z : Msg) (nl : Bool) : (m.upTo z nl 11).salt.l = if m.ne 4 = true then (m.fd 4).b.l else z.salt.l := by simp [Msg.upTo, setIf_get (fun m => m.salt.l), put_get (fun m => m.salt.l)]
theorem upTo_sea (m z : Msg) (nl : Bool) : (m.upTo z nl 11).sea.l = if m.ne 5 = true then (m.fd 5).b.l else z.sea.l := by simp [Msg.upTo, setIf_get (fun m => m.sea.l), put_get (fun m => m.sea.l)]
theorem upTo_tag (m z : Msg) (nl : Bool) : (m.upTo z nl 11).tag.l = if m.ne 6 = true then (m.fd 6).b.l else z.tag.l := by simp [Msg.upTo, setIf_get (fun m => m.tag.l), put_get (fun m => m.tag.l)]
theorem upTo_tok (m z : Msg) (nl : Bool) : (m.upTo z nl 11).tok.l = if m.ne 7 = true then (m.fd 7).b.l else z.tok.l := by simp [Msg.upTo, setIf_get (fun m => m.tok.l), put_get (fun m => m.tok.l)]
theorem upTo_rcd (m z : Msg) (nl : Bool) : (m.upTo z nl 11).rcd.l = if m.ne 8 = true then (m.fd 8).b.l else z.rcd.l := by simp [Msg.upTo, setIf_get (fun m => m.rcd.l), put_get (fun m => m.rcd.l)]
theorem upToR_kind (m z : Msg) (nl : Bool) : (m.upToR z nl 11).kind = z.kind := by simp [Msg.upToR, setIf_get Msg.kind, setR_get Msg.kind]
theorem upToR_proto (m z : Msg) (nl : Bool) : (m.upToR z nl 11).proto = if m.ne 0 = true then numR (m.fd 0).b.l else z.proto := by simp [Msg.upToR, setIf_get Msg.proto, setR_get Msg.proto]
theorem upToR_name (m z : Msg) (nl : Bool) : (m.upToR z nl 11).name = if m.ne 1 = true then (m.fd 1).b.l else z.name := by simp [Msg.upToR, setIf_get Msg.name, setR_get Msg.name]
theorem upToR_a (m z : Msg) (nl : Bool) : (m.upToR z nl 11).a = if m.ne 2 = true then Num.read (cut32 (m.fd 2).b.l) else z.a := by simp [Msg.upToR, setIf_get Msg.a, setR_get Msg.a]
theorem upToR_b (m z : Msg) (nl : Bool) : (m.upToR z nl 11).b = if m.ne 3 = true then Num.read (cut32 (m.fd 3).b.l) else z.b := by simp [Msg.upToR, setIf_get Msg.b, setR_get Msg.b]
theorem upToR_channel (m z : Msg) (nl : Bool) : (m.upToR z nl 11).channel = if m.ne 9 = true then numR (m.fd 9).b.l else z.channel := by simp [Msg.upToR, setIf_get Msg.channel, setR_get Msg.channel]
theorem upToR_e (m z : Msg) (nl : Bool) : (m.upToR z nl 11).e = if m.ne 10 = true then numR (m.fd 10).b.l else z.e := by simp [Msg.upToR, setIf_get Msg.e, setR_get Msg.e]
theorem upToR_salt (m z : Msg) (nl : Bool) : (m.upToR z nl 11).salt.l = if m.ne 4 = true then (m.fd 4).b.l else z.salt.l := by simp [Msg.upToR, setIf_get (fun m => m.salt.l), setR_get (fun m => m.salt.l)]
theorem upToR_sea (m z : Msg) (nl : Bool) : (m.upToR z nl 11).sea.l = if m.ne 5 = true then (m.fd 5).b.l else z.sea.l := by simp [Msg.upToR, setIf_get (fun m => m.sea.l), setR_get (fun m => m.sea.l)]
theorem upToR_tag (m z : Msg) (nl : Bool) : (m.upToR z nl 11).tag.l = if m.ne 6 = true then (m.fd 6).b.l else z.tag.l := by simp [Msg.upToR, setIf_get (fun m => m.tag.l), setR_get (fun m => m.tag.l)]
theorem upToR_tok (m z : Msg) (nl : Bool) : (m.upToR z nl 11).tok.l = if m.ne 7 = true then (m.fd 7).b.l else z.tok.l := by simp [Msg.upToR, setIf_get (fun m => m.tok.l), setR_get (fun m => m.tok.l)]
theorem upToR_rcd (m z : Msg) (nl : Bool) : (m.upToR z nl 11).rcd.l = if m.ne 8 = true then (m.fd 8).b.l else z.rcd.l := by simp [Msg.upToR, setIf_get (fun m => m.rcd.l), setR_get (fun m => m.rcd.l)]
/-! ### It is the message -/
theorem num_all {z bad : Bool} (l : List UInt8) : (Rd.mk ⟨z, l⟩ bad).num (l.length : Int) = Num.read l := by
  rw [Rd.num, got_le' (Nat.le_refl _), List.take_length]
theorem cut32_all {l : List UInt8} (h : l.length ≤ 32) : cut32 l = l := by
  rw [cut32, if_neg (by omega)]; simp
theorem low_eq {x : Num} (h : x.low = true) : (⟨x.a0, 0, 0, 0, 0, 0, 0, 0⟩ : Num) = x := by
  simp only [Num.low, Bool.and_eq_true, beq_iff_eq] at h
  obtain ⟨h1, h2, h3, h4, h5, h6, h7⟩ := h
  cases x; simp only at *; subst h1; subst h2; subst h3; subst h4; subst h5; subst h6; subst h7; rfl
theorem rights {m : Msg} (h : m.rightW = true) : 0 ≤ m.proto ∧ m.proto ≤ 2 ∧ m.a.low = true ∧ m.b.low = true ∧ 0 ≤ m.channel ∧ 0 ≤ m.e ∧ m.e ≤ 11 ∧ 1 ≤ m.kind ∧ m.kind ≤ 12 ∧ m.name.length ≤ 16 := by
  have h0 := h
  unfold Msg.rightW at h0
  rw [right_eq] at h
  simp only [Msg.rightR, Msg.okR, Bool.and_eq_true, Bool.or_eq_true, decide_eq_true_eq, beq_iff_eq, Bool.not_eq_true', decide_eq_false_iff_not] at h h0
  obtain ⟨_, h1, h2, hn, h3, h4, _, _, _, _, _, h5, h6, h7⟩ := h
  refine ⟨by omega, by omega, h3, h4, h5, h6, h7, by omega, by omega, ?_⟩
  rcases hn with hn | hn
  · rw [hn]; simp
  · exact nameOK_len hn
theorem empty_of {l : List UInt8} (h : decide (0 < (l.length : Int)) = false) : l = [] := by
  have := of_decide_eq_false h
  exact List.eq_nil_of_length_eq_zero (by omega)
/-- What is read of each field. -/
theorem whole1 {n : Int} (h : 0 ≤ n ∧ n ≤ 255) (h0 : decide (0 < ((wholeB n 1).l.length : Int)) = true) : (wholeB n 1).l = [UInt8.ofInt n] ∧ ((UInt8.ofInt n).toNat : Int) = n := by
  have hn : n ≠ 0 := fun e => by subst e; exact absurd h0 (by decide)
  refine ⟨by rw [wholeB, if_neg hn]; exact atB1_from h.1, ?_⟩
  rw [u8_ofInt]; omega
theorem whole0 {n : Int} {k : Nat} (hk : 0 < k ∧ k ≤ 32) (h0 : decide (0 < ((wholeB n k).l.length : Int)) = false) : n = 0 := by
  have := empty_of h0
  by_cases h : n = 0
  · exact h
  · rw [wholeB, if_neg h] at this
    have h2 : (atB (Num.from n) k).length = k := atB_len _ _ hk.2
    have h3 : (atB (Num.from n) k) = [] := this
    rw [h3] at h2; simp at h2; omega
theorem whole8 {n : Int} (h : 0 ≤ n) (h0 : decide (0 < ((wholeB n 8).l.length : Int)) = true) : (wholeB n 8).l = atB (Num.from n) 8 := by
  have hn : n ≠ 0 := fun e => by subst e; exact absurd h0 (by decide)
  rw [wholeB, if_neg hn]
theorem four1 {x : Num} (h0 : decide (0 < ((fourB x).l.length : Int)) = true) : (fourB x).l = be4 x.a0 := by
  have hn : x ≠ Num.zero := fun e => by subst e; exact absurd h0 (by decide)
  rw [fourB, if_neg hn]
theorem four0 {x : Num} (h0 : decide (0 < ((fourB x).l.length : Int)) = false) : x = Num.zero := by
  by_cases h : x = Num.zero
  · exact h
  · rw [fourB, if_neg h] at h0; exact absurd h0 (by simp [be4])
theorem upTo_same (m : Msg) (h : m.rightW = true) (hc : m.channel < 9223372036854775808) (nl : Bool) : (m.upTo { Msg.zero with kind := m.kind } nl 11).norm = m.norm := by
  obtain ⟨p1, p2, ha, hb, hch, e1, e2, _, _, _⟩ := rights h
  rw [← same_norm]
  unfold Msg.same
  rw [upTo_kind, upTo_proto, upTo_channel, upTo_e, upTo_name, upTo_a, upTo_b, upTo_salt, upTo_sea, upTo_tag, upTo_tok, upTo_rcd]
  simp only [Bool.and_eq_true, beq_iff_eq, decide_eq_true_eq]
  have n0 := m.ne
  refine ⟨by trivial, ?_, ?_, ?_, ?_, ?_, ?_, ?_, ?_, ?_, ?_, ?_⟩
  · split
    · rename_i k
      obtain ⟨w1, w2⟩ := whole1 (n := m.proto) (by omega) k
      show ((Rd.mk ⟨nl, (wholeB m.proto 1).l⟩ false).num 1).i64 = _
      rw [w1, num_one, w2]
    · rename_i k
      exact (whole0 (by omega) (Bool.eq_false_iff.2 k)).symm
  · split
    · rename_i k
      show ((Rd.mk ⟨nl, (wholeB m.channel 8).l⟩ false).num 8).i64 = _
      rw [whole8 hch k]
      have := num_all (z := nl) (bad := false) (atB (Num.from m.channel) 8)
      rw [atB_len _ _ (by omega)] at this
      rw [show (8 : Int) = ((8 : Nat) : Int) from rfl, this, i64_from ⟨hch, hc⟩]
    · rename_i k
      exact (whole0 (by omega) (Bool.eq_false_iff.2 k)).symm
  · split
    · rename_i k
      obtain ⟨w1, w2⟩ := whole1 (n := m.e) (by omega) k
      show ((Rd.mk ⟨nl, (wholeB m.e 1).l⟩ false).num 1).i64 = _
      rw [w1, num_one, w2]
    · rename_i k
      exact (whole0 (by omega) (Bool.eq_false_iff.2 k)).symm
  · split
    · rfl
    · rename_i k; exact (empty_of (Bool.eq_false_iff.2 k)).symm
  · split
    · rename_i k
      show (Rd.mk ⟨nl, (fourB m.a).l⟩ false).num 4 = _
      rw [four1 k]
      exact (num_all (z := nl) (bad := false) (be4 m.a.a0)).trans ((read_be4 _).trans (low_eq ha))
    · rename_i k; exact (four0 (Bool.eq_false_iff.2 k)).symm
  · split
    · rename_i k
      show (Rd.mk ⟨nl, (fourB m.b).l⟩ false).num 4 = _
      rw [four1 k]
      exact (num_all (z := nl) (bad := false) (be4 m.b.a0)).trans ((read_be4 _).trans (low_eq hb))
    · rename_i k; exact (four0 (Bool.eq_false_iff.2 k)).symm
  all_goals
    split
    · rfl
    · rename_i k; exact (empty_of (Bool.eq_false_iff.2 k)).symm
theorem upToR_same (m : Msg) (h : m.rightW = true) (hc : m.channel < 9223372036854775808) (nl : Bool) : (m.upToR { Msg.zero with kind := m.kind } nl 11).norm = m.norm := by
  obtain ⟨p1, p2, ha, hb, hch, e1, e2, _, _, _⟩ := rights h
  rw [← same_norm]
  unfold Msg.same
  rw [upToR_kind, upToR_proto, upToR_channel, upToR_e, upToR_name, upToR_a, upToR_b, upToR_salt, upToR_sea, upToR_tag, upToR_tok, upToR_rcd]
  simp only [Bool.and_eq_true, beq_iff_eq, decide_eq_true_eq]
  refine ⟨by trivial, ?_, ?_, ?_, ?_, ?_, ?_, ?_, ?_, ?_, ?_, ?_⟩
  · split
    · rename_i k
      obtain ⟨w1, w2⟩ := whole1 (n := m.proto) (by omega) k
      show numR (wholeB m.proto 1).l = _
      rw [w1, numR_byte, w2]
    · rename_i k
      exact (whole0 (by omega) (Bool.eq_false_iff.2 k)).symm
  · split
    · rename_i k
      show numR (wholeB m.channel 8).l = _
      rw [whole8 hch k, atB8_from hch, numR_eight ⟨hch, hc⟩]
    · rename_i k
      exact (whole0 (by omega) (Bool.eq_false_iff.2 k)).symm
  · split
    · rename_i k
      obtain ⟨w1, w2⟩ := whole1 (n := m.e) (by omega) k
      show numR (wholeB m.e 1).l = _
      rw [w1, numR_byte, w2]
    · rename_i k
      exact (whole0 (by omega) (Bool.eq_false_iff.2 k)).symm
  · split
    · rfl
    · rename_i k; exact (empty_of (Bool.eq_false_iff.2 k)).symm
  · split
    · rename_i k
      show Num.read (cut32 (fourB m.a).l) = _
      rw [four1 k, cut32_all (by simp [be4]), read_be4, low_eq ha]
    · rename_i k; exact (four0 (Bool.eq_false_iff.2 k)).symm
  · split
    · rename_i k
      show Num.read (cut32 (fourB m.b).l) = _
      rw [four1 k, cut32_all (by simp [be4]), read_be4, low_eq hb]
    · rename_i k; exact (four0 (Bool.eq_false_iff.2 k)).symm
  all_goals
    split
    · rfl
    · rename_i k; exact (empty_of (Bool.eq_false_iff.2 k)).symm

/-! ### What was written is read -/
theorem fieldsB_len : ∀ fs : List (Nat × List UInt8), fs.length ≤ (fieldsB fs).length
  | [] => by simp
  | f :: r => by
    have := fieldsB_len r
    simp only [fieldsB, List.length_cons, List.length_append]; omega
theorem outW_l {m : Msg} (h : m.isW = true) : ∃ x y, m.outW.l = x :: y :: UInt8.ofInt m.kind :: fieldsB (m.flds 11) := by
  refine ⟨UInt8.ofInt (((m.encW 11).length : Int) / 2 ^ 8), UInt8.ofInt ((m.encW 11).length : Int), ?_⟩
  rw [Msg.outW, h]
  simp only
  rw [encW_flds m 11 (by omega)]
  rfl
theorem decW_back (m : Msg) (nl : Bool) (h : m.isW = true) (hc : m.channel < 9223372036854775808) : ∃ d, decW ⟨nl, m.outW.l⟩ = some d ∧ d.norm = m.norm := by
  have hr : m.rightW = true := by unfold Msg.isW at h; simp only [Bool.and_eq_true] at h; exact h.1
  have hg : m.goodTo 11 = true := by unfold Msg.rightW at hr; simp only [Bool.and_eq_true] at hr; exact hr.2.2
  have hs := upTo_same m hr hc nl
  have hk := rights hr
  obtain ⟨x, y, e⟩ := outW_l h
  refine ⟨m.upTo { Msg.zero with kind := m.kind } nl 11, ?_, hs⟩
  have e0 : rd0 ⟨nl, m.outW.l⟩ = ⟨⟨nl, fieldsB (m.flds 11)⟩, false⟩ := by
    rw [rd0, e, show (2 : Int) = ((2 : Nat) : Int) from rfl, next_le' (by simp), List.drop_succ_cons, List.drop_succ_cons, List.drop_zero, next_one]
  have e1 : msg0 ⟨nl, m.outW.l⟩ = { Msg.zero with kind := m.kind } := by
    rw [msg0, e, show (2 : Int) = ((2 : Nat) : Int) from rfl, next_le' (by simp), List.drop_succ_cons, List.drop_succ_cons, List.drop_zero, num_one, u8_ofInt, show m.kind % 256 = m.kind by omega]
  have e2 : decLoop (rd0 ⟨nl, m.outW.l⟩).b.l.length (msg0 ⟨nl, m.outW.l⟩) (rd0 ⟨nl, m.outW.l⟩) = some (m.upTo { Msg.zero with kind := m.kind } nl 11) := by
    rw [e0, e1, decLoop_fields nl (m.flds 11) _ _ (fieldsB_len _) (flds_ok m hg), fold_upTo]
  rw [decW, e2]
  simp only
  rw [isW_same hs, outW_same hs, h]
  simp
theorem decR_back (m : Msg) (nl : Bool) (h : m.isW = true) (hc : m.channel < 9223372036854775808) : ∃ d, decR ⟨nl, m.outW.l⟩ = some d ∧ d.norm = m.norm := by
  have hr : m.rightW = true := by unfold Msg.isW at h; simp only [Bool.and_eq_true] at h; exact h.1
  have hg : m.goodTo 11 = true := by unfold Msg.rightW at hr; simp only [Bool.and_eq_true] at hr; exact hr.2.2
  have hs := upToR_same m hr hc nl
  have hk := rights hr
  obtain ⟨x, y, e⟩ := outW_l h
  refine ⟨m.upToR { Msg.zero with kind := m.kind } nl 11, ?_, hs⟩
  have e1 : msgR ⟨nl, m.outW.l⟩ = { Msg.zero with kind := m.kind } := by
    rw [msgR, e]
    show { Msg.zero with kind := ((UInt8.ofInt m.kind).toNat : Int) } = _
    rw [u8_ofInt, show m.kind % 256 = m.kind by omega]
  have e2 : decLoopR ⟨nl, m.outW.l⟩ m.outW.l.length (msgR ⟨nl, m.outW.l⟩) 3 = m.upToR { Msg.zero with kind := m.kind } nl 11 := by
    have hl : (m.flds 11).length ≤ m.outW.l.length := by
      have := fieldsB_len (m.flds 11)
      rw [e]; simp only [List.length_cons]; omega
    have := decLoopR_fields nl (m.flds 11) m.outW.l.length { Msg.zero with kind := m.kind } [x, y, UInt8.ofInt m.kind] hl (flds_ok m hg)
    rw [e1, ← fold_upToR, ← this]
    rw [show [x, y, UInt8.ofInt m.kind] ++ fieldsB (m.flds 11) = m.outW.l from e.symm]; rfl
  have h3 : ¬ m.outW.l.length < 3 := by rw [e]; simp
  rw [decR, decide_eq_false (show ¬ (By.mk nl m.outW.l).l.length < 3 from h3)]
  simp only [e2]
  rw [← is_eq, ← out_eq, isW_same hs, outW_same hs, h]
  simp
theorem ior_lt (a b : Int) : ior a b < 9223372036854775808 := by
  unfold ior; rw [IntKind.wrap_i64]; omega
theorem numR_lt (l : List UInt8) : numR l < 9223372036854775808 := by
  unfold numR
  cases min l.length 8 with
  | zero => simp [numTo]
  | succ n => exact ior_lt _ _
theorem ite_lt {c : Prop} [Decidable c] {x y k : Int} (h1 : x < k) (h2 : y < k) : (if c then x else y) < k := by split <;> assumption
theorem put_chan (m : Msg) (k : Int) (b : By) (h : m.channel < 9223372036854775808) : (m.put k b).channel < 9223372036854775808 := by
  rw [put_get Msg.channel]
  have := i64_lt ((Rd.mk b false).num 8)
  repeat' (first | exact h | exact this | apply ite_lt)
theorem setR_chan (m : Msg) (k : Int) (b : By) (h : m.channel < 9223372036854775808) : (m.setR k b).channel < 9223372036854775808 := by
  rw [setR_get Msg.channel]
  have := numR_lt b.l
  repeat' (first | exact h | exact this | apply ite_lt)
theorem decLoop_chan : ∀ (n : Nat) (m : Msg) (r : Rd) (d : Msg), m.channel < 9223372036854775808 → decLoop n m r = some d → d.channel < 9223372036854775808
  | 0, m, r, d, h, e => by cases e; exact h
  | n + 1, m, r, d, h, e => by
    rw [decLoop] at e
    split at e
    · cases e; exact h
    · split at e
      · exact decLoop_chan n _ _ d (put_chan m _ _ h) e
      · cases e
theorem decLoopR_chan (b : By) : ∀ (n : Nat) (m : Msg) (a : Nat), m.channel < 9223372036854775808 → (decLoopR b n m a).channel < 9223372036854775808
  | 0, m, a, h => h
  | n + 1, m, a, h => by
    rw [decLoopR]
    split
    · exact decLoopR_chan b n _ _ (setR_chan m _ _ h)
    · exact h
theorem decW_some {b : By} {m : Msg} (h : decW b = some m) : m.isW = true ∧ m.outW.l = b.l ∧ m.channel < 9223372036854775808 := by
  unfold decW at h
  split at h
  · rename_i d hd
    split at h
    · rename_i hb
      cases h
      simp only [Bool.and_eq_true, beq_iff_eq] at hb
      exact ⟨hb.1, hb.2, decLoop_chan _ _ _ _ (by show (0 : Int) < _; omega) hd⟩
    · cases h
  · cases h
theorem decR_some {b : By} {m : Msg} (h : decR b = some m) : m.isW = true ∧ m.outW.l = b.l ∧ m.channel < 9223372036854775808 := by
  unfold decR at h
  split at h
  · cases h
  · split at h
    · rename_i hb
      cases h
      simp only [Bool.and_eq_true, beq_iff_eq] at hb
      refine ⟨?_, ?_, decLoopR_chan b _ _ _ (by show (0 : Int) < _; omega)⟩
      · rw [is_eq]; exact hb.1
      · rw [out_eq]; exact hb.2
    · cases h
/-- Both readers read the same. -/
theorem dec_agree (b : By) : (decW b).isSome = (decR b).isSome ∧ (orZ (decW b)).norm = (orZ (decR b)).norm := by
  cases hw : decW b with
  | some m =>
    obtain ⟨h1, h2, h3⟩ := decW_some hw
    obtain ⟨d, e1, e2⟩ := decR_back m b.nil h1 h3
    rw [h2] at e1
    have e1 : decR b = some d := e1
    rw [e1]; exact ⟨rfl, e2.symm⟩
  | none =>
    cases hr : decR b with
    | none => exact ⟨rfl, rfl⟩
    | some m =>
      obtain ⟨h1, h2, h3⟩ := decR_some hr
      obtain ⟨d, e1, e2⟩ := decW_back m b.nil h1 h3
      rw [h2] at e1
      have e1 : decW b = some d := e1
      rw [hw] at e1; cases e1
theorem dec_same (b : By) : (orZ (decW b)).same (orZ (decR b)) = true := (same_norm _ _).2 (dec_agree b).2
/-- Two messages that may be have the same bytes just where they are the same. -/
theorem out_inj {m n : Msg} (hm : m.isW = true) (hn : n.isW = true) (cm : m.channel < 9223372036854775808) (cn : n.channel < 9223372036854775808) : (m.outW.l == n.outW.l) = m.same n := by
  rw [Bool.eq_iff_iff, beq_iff_eq, same_norm]
  constructor
  · intro h
    obtain ⟨d, e1, e2⟩ := decW_back m false hm cm
    obtain ⟨d', e3, e4⟩ := decW_back n false hn cn
    rw [h] at e1
    rw [e1] at e3
    cases e3
    exact e2.symm.trans e4
  · intro h; rw [outW_same h]
end Go.Abs

namespace Go.Abs
set_option maxRecDepth 100000

theorem iteP {α : Type} {c : Prop} [Decidable c] {P : α → Prop} {x y : α} (h1 : c → P x) (h2 : ¬ c → P y) : P (if c then x else y) := by
  split
  · exact h1 ‹_›
  · exact h2 ‹_›
theorem right_of (m : Msg) (hk : 1 ≤ m.kind ∧ m.kind ≤ 12) (hh : ∀ j, j < 11 → m.has (j + 1) = decide (((j + 1 : Nat) : Int) ∈ wantL m)) (hp : 0 ≤ m.proto ∧ m.proto ≤ 2) (hn : m.name = [] ∨ nameOK m.name = true) (ha : m.a.low = true) (hb : m.b.low = true)
    (h1 : m.salt.l.length ≤ 16) (h2 : m.sea.l.length ≤ 48) (h3 : m.tag.l.length ≤ 16) (h4 : m.tok.l.length ≤ 80) (h5 : m.rcd.l.length ≤ 120) (hc : 0 ≤ m.channel) (he : 0 ≤ m.e ∧ m.e ≤ 11) : m.rightW = true := by
  rw [right_eq]
  simp only [Msg.rightR, Msg.okR, Bool.and_eq_true, Bool.or_eq_true, decide_eq_true_eq, beq_iff_eq, Bool.not_eq_true', decide_eq_false_iff_not]
  refine ⟨?_, by omega, by omega, hn, ha, hb, by omega, by omega, by omega, by omega, by omega, hc, he⟩
  have := (there_want m).2 hh
  rw [wantN, if_pos hk]; simpa using this
theorem mkK_in (k : Int) : 1 ≤ mkK k ∧ mkK k ≤ 12 := by
  have h := within1_in (a := k) (b := 12) (by omega)
  unfold mkK; rw [w64_in (by omega)]; omega
theorem mkP_in (n : Int) : 1 ≤ mkP n ∧ mkP n ≤ 2 := by
  have h := within1_in (a := n) (b := 2) (by omega)
  unfold mkP; rw [w64_in (by omega)]; omega
theorem from_low {n : Int} (h : 0 < n ∧ n < 4294967296) : (Num.from n).low = true ∧ (Num.from n).isZ = false := by
  have h0 := u32_ofInt n
  have h1 := u32_ofInt (n / 2 ^ 32)
  have e1 : UInt32.ofInt (n / 2 ^ 32) = 0 := UInt32.toNat_inj.1 (by rw [show (0 : UInt32).toNat = 0 from rfl]; omega)
  have e0 : UInt32.ofInt n ≠ 0 := fun e => by rw [e, show (0 : UInt32).toNat = 0 from rfl] at h0; omega
  rw [Num.from, if_neg (by omega), e1]
  refine ⟨rfl, ?_⟩
  simp only [Num.isZ, beq_eq_false_iff_ne.2 e0, Bool.false_and]
theorem mkA_low (n : Int) : (mkA n).low = true ∧ (mkA n).isZ = false := by
  have h := within1_in (a := n) (b := 4294967295) (by omega)
  exact from_low (by rw [w64_in (by omega)]; omega)
theorem mkC_low (n : Int) : (mkC n).low = true ∧ (mkC n).isZ = false := by
  have h := within1_in (a := w64 (n.tdiv 3)) (b := 70000) (by omega)
  exact from_low (by rw [w64_in (by omega)]; omega)
theorem nameC_good (x : UInt8) : goodB (nameC x) = true := by
  have h := within1_in (a := (x.toNat : Int)) (b := 94) (by omega)
  have h2 := u8_ofInt (w64 (33 + within1 (x.toNat : Int) 94))
  rw [w64_in (by omega)] at h2
  have h3 : (nameC x).toNat = (33 + within1 (x.toNat : Int) 94).toNat := by
    unfold nameC; rw [w64_in (by omega)] at *; omega
  unfold goodB
  rw [decide_eq_false (by omega), decide_eq_false (by omega)]; rfl
theorem nameL_ok (s : List UInt8) : nameOK (nameL s) = true ∧ nameL s ≠ [] := by
  cases s with
  | nil => exact ⟨by decide, by decide⟩
  | cons x l =>
    have e : nameL (x :: l) = ((x :: l).map nameC).take 16 := rfl
    rw [e]
    refine ⟨?_, by simp⟩
    rw [nameOK, decide_eq_true (show 1 ≤ (((x :: l).map nameC).take 16).length by simp), decide_eq_true (show (((x :: l).map nameC).take 16).length ≤ 16 by simp; omega), Bool.true_and, Bool.true_and, List.all_eq_true]
    intro y hy
    obtain ⟨z, _, rfl⟩ := List.mem_map.1 (List.mem_of_mem_take hy)
    exact nameC_good z
theorem someB_len (b : By) (n most : Int) (h : 0 < most ∧ most ≤ 1000) : 1 ≤ (someB b n most).l.length ∧ ((someB b n most).l.length : Int) ≤ most := by
  have := (someK_eq n most h).2
  rw [someB, someL, someTo_len]; omega
theorem some_has (b : By) (n most : Int) (h : 0 < most ∧ most ≤ 1000) : decide (0 < ((someB b n most).l.length : Int)) = true := by
  have := someB_len b n most h
  exact decide_eq_true (by omega)
theorem right_of' (m : Msg) (B : List Bool) (L : List Int) (hB : [m.has 1, m.has 2, m.has 3, m.has 4, m.has 5, m.has 6, m.has 7, m.has 8, m.has 9, m.has 10, m.has 11] = B) (hL : wantL m = L) (hBL : ((List.range 11).all fun j => B.getD j false == decide (((j + 1 : Nat) : Int) ∈ L)) = true)
    (hk : 1 ≤ m.kind ∧ m.kind ≤ 12) (hp : 0 ≤ m.proto ∧ m.proto ≤ 2) (hn : m.name = [] ∨ nameOK m.name = true) (ha : m.a.low = true) (hb : m.b.low = true)
    (h1 : m.salt.l.length ≤ 16) (h2 : m.sea.l.length ≤ 48) (h3 : m.tag.l.length ≤ 16) (h4 : m.tok.l.length ≤ 80) (h5 : m.rcd.l.length ≤ 120) (hc : 0 ≤ m.channel) (he : 0 ≤ m.e ∧ m.e ≤ 11) : m.rightW = true := by
  refine right_of m hk (fun j hj => ?_) hp hn ha hb h1 h2 h3 h4 h5 hc he
  have h := List.all_eq_true.1 hBL j (List.mem_range.2 hj)
  rw [beq_iff_eq, ← hB, ← hL] at h
  rw [← h]
  rcases j with _ | _ | _ | _ | _ | _ | _ | _ | _ | _ | _ | j <;> first | rfl | omega
theorem has_of {m : Msg} {b1 b2 b3 b4 b5 b6 b7 b8 b9 b10 b11 : Bool} (h1 : (!(m.proto == 0)) = b1) (h2 : (!(m.name == [])) = b2) (h3 : (!m.a.isZ) = b3) (h4 : (!m.b.isZ) = b4) (h5 : decide (0 < (m.salt.l.length : Int)) = b5) (h6 : decide (0 < (m.sea.l.length : Int)) = b6)
    (h7 : decide (0 < (m.tag.l.length : Int)) = b7) (h8 : decide (0 < (m.tok.l.length : Int)) = b8) (h9 : decide (0 < (m.rcd.l.length : Int)) = b9) (h10 : (!(m.channel == 0)) = b10) (h11 : (!(m.e == 0)) = b11) :
    [m.has 1, m.has 2, m.has 3, m.has 4, m.has 5, m.has 6, m.has 7, m.has 8, m.has 9, m.has 10, m.has 11] = [b1, b2, b3, b4, b5, b6, b7, b8, b9, b10, b11] := by
  subst h1; subst h2; subst h3; subst h4; subst h5; subst h6; subst h7; subst h8; subst h9; subst h10; subst h11; rfl
theorem kk (k : Int) (h : 1 ≤ k ∧ k ≤ 12) : 1 ≤ k ∧ k ≤ 12 := h
theorem pp (k : Int) (h : 0 ≤ k ∧ k ≤ 2) : 0 ≤ k ∧ k ≤ 2 := h
theorem ee0 : (0 : Int) ≤ 0 ∧ (0 : Int) ≤ 11 := by decide
theorem not_zero {n : Int} (h : 1 ≤ n) : (!(n == 0)) = true := by rw [beq_eq_false_iff_ne.2 (by omega)]; rfl
theorem not_nil {l : List UInt8} (h : l ≠ []) : (!(l == [])) = true := by rw [beq_eq_false_iff_ne.2 h]; rfl
theorem not_f' {b : Bool} (h : b = false) : (!b) = true := by rw [h]; rfl
set_option maxHeartbeats 1000000 in
theorem make_right (kind n : Int) (s : List UInt8) (b : By) : (makeM kind n s b).rightW = true := by
  have hK := mkK_in kind
  have hP := mkP_in n
  obtain ⟨a1, a2⟩ := mkA_low n
  obtain ⟨c1, c2⟩ := mkC_low n
  obtain ⟨n1, n2⟩ := nameL_ok s
  have l16 := someB_len b n 16 (by omega)
  have l48 := someB_len b n 48 (by omega)
  have l80 := someB_len b n 80 (by omega)
  have l120 := someB_len b n 120 (by omega)
  have l110 := someB_len b (w64 (n.tdiv 5)) 110 (by omega)
  have l167 := someB_len b (w64 (n.tdiv 7)) 16 (by omega)
  have hch : 1 ≤ w64 (1 + within1 n 1099511627776) := by
    have h := within1_in (a := n) (b := 1099511627776) (by omega)
    rw [w64_in (by omega)]; omega
  have he : 1 ≤ w64 (1 + within1 n 11) ∧ w64 (1 + within1 n 11) ≤ 11 := by
    have h := within1_in (a := n) (b := 11) (by omega)
    rw [w64_in (by omega)]; omega
  unfold makeM
  generalize mkK kind = K at *
  generalize mkP n = P at *
  generalize mkA n = A at *
  generalize mkC n = C at *
  generalize nameL s = N at *
  generalize someB b n 16 = B16 at *
  generalize someB b n 48 = B48 at *
  generalize someB b n 80 = B80 at *
  generalize someB b n 120 = B120 at *
  generalize someB b (w64 (n.tdiv 5)) 110 = B110 at *
  generalize someB b (w64 (n.tdiv 7)) 16 = B167 at *
  generalize w64 (1 + within1 n 1099511627776) = CH at *
  generalize w64 (1 + within1 n 11) = EE at *
  have p16 : decide (0 < (B16.l.length : Int)) = true := decide_eq_true (by omega)
  have p48 : decide (0 < (B48.l.length : Int)) = true := decide_eq_true (by omega)
  have p80 : decide (0 < (B80.l.length : Int)) = true := decide_eq_true (by omega)
  have p120 : decide (0 < (B120.l.length : Int)) = true := decide_eq_true (by omega)
  have p110 : decide (0 < (B110.l.length : Int)) = true := decide_eq_true (by omega)
  have p167 : decide (0 < (B167.l.length : Int)) = true := decide_eq_true (by omega)
  have pP := not_zero hP.1
  have pN := not_nil n2
  have pA := not_f' a2
  have pC := not_f' c2
  have pH := not_zero hch
  have pE := not_zero he.1
  have hP2 : P = 2 ∨ P = 1 := by omega
  obtain rfl | rfl | rfl | rfl | rfl | rfl | rfl | rfl | rfl | rfl | rfl | rfl : K = 1 ∨ K = 2 ∨ K = 3 ∨ K = 4 ∨ K = 5 ∨ K = 6 ∨ K = 7 ∨ K = 8 ∨ K = 9 ∨ K = 10 ∨ K = 11 ∨ K = 12 := by omega
  · rcases hP2 with rfl | rfl
    · simp only [Int.reduceEq, ↓reduceIte]
      exact right_of' _ _ [1, 2, 3, 4] (has_of rfl pN pA pC rfl rfl rfl rfl rfl rfl rfl) rfl rfl (kk 1 (by decide)) (pp 2 (by decide)) (.inr n1) a1 c1 (by first | exact Nat.zero_le _ | exact Int.le_refl 0 | exact ee0) (by first | exact Nat.zero_le _ | exact Int.le_refl 0 | exact ee0) (by first | exact Nat.zero_le _ | exact Int.le_refl 0 | exact ee0) (by first | exact Nat.zero_le _ | exact Int.le_refl 0 | exact ee0) (by first | exact Nat.zero_le _ | exact Int.le_refl 0 | exact ee0) (by first | exact Nat.zero_le _ | exact Int.le_refl 0 | exact ee0) (by first | exact Nat.zero_le _ | exact Int.le_refl 0 | exact ee0)
    · simp only [Int.reduceEq, ↓reduceIte]
      exact right_of' _ _ [1, 2, 3] (has_of rfl pN pA rfl rfl rfl rfl rfl rfl rfl rfl) rfl rfl (kk 1 (by decide)) (pp 1 (by decide)) (.inr n1) a1 rfl (by first | exact Nat.zero_le _ | exact Int.le_refl 0 | exact ee0) (by first | exact Nat.zero_le _ | exact Int.le_refl 0 | exact ee0) (by first | exact Nat.zero_le _ | exact Int.le_refl 0 | exact ee0) (by first | exact Nat.zero_le _ | exact Int.le_refl 0 | exact ee0) (by first | exact Nat.zero_le _ | exact Int.le_refl 0 | exact ee0) (by first | exact Nat.zero_le _ | exact Int.le_refl 0 | exact ee0) (by first | exact Nat.zero_le _ | exact Int.le_refl 0 | exact ee0)
  · rcases hP2 with rfl | rfl
    · simp only [Int.reduceEq, ↓reduceIte]
      exact right_of' _ _ [1, 3, 4, 6] (has_of rfl rfl pC pA rfl p48 rfl rfl rfl rfl rfl) rfl rfl (kk 2 (by decide)) (pp 2 (by decide)) (.inl rfl) c1 a1 (by first | exact Nat.zero_le _ | exact Int.le_refl 0 | exact ee0) (show B48.l.length ≤ 48 by omega) (by first | exact Nat.zero_le _ | exact Int.le_refl 0 | exact ee0) (by first | exact Nat.zero_le _ | exact Int.le_refl 0 | exact ee0) (by first | exact Nat.zero_le _ | exact Int.le_refl 0 | exact ee0) (by first | exact Nat.zero_le _ | exact Int.le_refl 0 | exact ee0) (by first | exact Nat.zero_le _ | exact Int.le_refl 0 | exact ee0)
    · simp only [Int.reduceEq, ↓reduceIte]
      exact right_of' _ _ [1, 4, 5] (has_of rfl rfl rfl pA p16 rfl rfl rfl rfl rfl rfl) rfl rfl (kk 2 (by decide)) (pp 1 (by decide)) (.inl rfl) rfl a1 (show B16.l.length ≤ 16 by omega) (by first | exact Nat.zero_le _ | exact Int.le_refl 0 | exact ee0) (by first | exact Nat.zero_le _ | exact Int.le_refl 0 | exact ee0) (by first | exact Nat.zero_le _ | exact Int.le_refl 0 | exact ee0) (by first | exact Nat.zero_le _ | exact Int.le_refl 0 | exact ee0) (by first | exact Nat.zero_le _ | exact Int.le_refl 0 | exact ee0) (by first | exact Nat.zero_le _ | exact Int.le_refl 0 | exact ee0)
  · simp only [Int.reduceEq, ↓reduceIte]
    exact right_of' _ _ [7] (has_of rfl rfl rfl rfl rfl rfl p16 rfl rfl rfl rfl) rfl rfl (kk 3 (by decide)) (pp 0 (by decide)) (.inl rfl) rfl rfl (by first | exact Nat.zero_le _ | exact Int.le_refl 0 | exact ee0) (by first | exact Nat.zero_le _ | exact Int.le_refl 0 | exact ee0) (show B16.l.length ≤ 16 by omega) (by first | exact Nat.zero_le _ | exact Int.le_refl 0 | exact ee0) (by first | exact Nat.zero_le _ | exact Int.le_refl 0 | exact ee0) (by first | exact Nat.zero_le _ | exact Int.le_refl 0 | exact ee0) (by first | exact Nat.zero_le _ | exact Int.le_refl 0 | exact ee0)
  · refine iteP (P := fun m : Msg => m.rightW = true) (fun h => absurd h (by decide)) (fun _ => ?_)
    refine iteP (P := fun m : Msg => m.rightW = true) (fun h => absurd h (by decide)) (fun _ => ?_)
    refine iteP (P := fun m : Msg => m.rightW = true) (fun h => absurd h (by decide)) (fun _ => ?_)
    refine iteP (P := fun m : Msg => m.rightW = true) (fun _ => ?_) (fun h => absurd rfl h)
    refine iteP (P := fun m : Msg => m.rightW = true) (fun _ => ?_) (fun _ => ?_)
    · simp only [Int.reduceEq, ↓reduceIte]
      exact right_of' _ _ [7, 8] (has_of rfl rfl rfl rfl rfl rfl p167 p80 rfl rfl rfl) (by
        show (if 0 < (B167.l.length : Int) then [7, 8] else [8]) = [7, 8]
        rw [if_pos (by omega)]) rfl (kk 4 (by decide)) (pp 0 (by decide)) (.inl rfl) rfl rfl (by first | exact Nat.zero_le _ | exact Int.le_refl 0 | exact ee0) (by first | exact Nat.zero_le _ | exact Int.le_refl 0 | exact ee0) (show B167.l.length ≤ 16 by omega) (show B80.l.length ≤ 80 by omega) (by first | exact Nat.zero_le _ | exact Int.le_refl 0 | exact ee0) (by first | exact Nat.zero_le _ | exact Int.le_refl 0 | exact ee0) (by first | exact Nat.zero_le _ | exact Int.le_refl 0 | exact ee0)
    · simp only [Int.reduceEq, ↓reduceIte]
      exact right_of' _ _ [8] (has_of rfl rfl rfl rfl rfl rfl rfl p80 rfl rfl rfl) rfl rfl (kk 4 (by decide)) (pp 0 (by decide)) (.inl rfl) rfl rfl (by first | exact Nat.zero_le _ | exact Int.le_refl 0 | exact ee0) (by first | exact Nat.zero_le _ | exact Int.le_refl 0 | exact ee0) (by first | exact Nat.zero_le _ | exact Int.le_refl 0 | exact ee0) (show B80.l.length ≤ 80 by omega) (by first | exact Nat.zero_le _ | exact Int.le_refl 0 | exact ee0) (by first | exact Nat.zero_le _ | exact Int.le_refl 0 | exact ee0) (by first | exact Nat.zero_le _ | exact Int.le_refl 0 | exact ee0)
  · simp only [Int.reduceEq, ↓reduceIte]
    exact right_of' _ _ [11] (has_of rfl rfl rfl rfl rfl rfl rfl rfl rfl rfl pE) rfl rfl (kk 5 (by decide)) (pp 0 (by decide)) (.inl rfl) rfl rfl (by first | exact Nat.zero_le _ | exact Int.le_refl 0 | exact ee0) (by first | exact Nat.zero_le _ | exact Int.le_refl 0 | exact ee0) (by first | exact Nat.zero_le _ | exact Int.le_refl 0 | exact ee0) (by first | exact Nat.zero_le _ | exact Int.le_refl 0 | exact ee0) (by first | exact Nat.zero_le _ | exact Int.le_refl 0 | exact ee0) (by first | exact Nat.zero_le _ | exact Int.le_refl 0 | exact ee0) (show 0 ≤ EE ∧ EE ≤ 11 by omega)
  · simp only [Int.reduceEq, ↓reduceIte]
    exact right_of' _ _ [1, 2, 9] (has_of pP pN rfl rfl rfl rfl rfl rfl p120 rfl rfl) rfl rfl (kk 6 (by decide)) (show 0 ≤ P ∧ P ≤ 2 by omega) (.inr n1) rfl rfl (by first | exact Nat.zero_le _ | exact Int.le_refl 0 | exact ee0) (by first | exact Nat.zero_le _ | exact Int.le_refl 0 | exact ee0) (by first | exact Nat.zero_le _ | exact Int.le_refl 0 | exact ee0) (by first | exact Nat.zero_le _ | exact Int.le_refl 0 | exact ee0) (show B120.l.length ≤ 120 by omega) (by first | exact Nat.zero_le _ | exact Int.le_refl 0 | exact ee0) (by first | exact Nat.zero_le _ | exact Int.le_refl 0 | exact ee0)
  · simp only [Int.reduceEq, ↓reduceIte]
    exact right_of' _ _ [] (has_of rfl rfl rfl rfl rfl rfl rfl rfl rfl rfl rfl) rfl rfl (kk 7 (by decide)) (pp 0 (by decide)) (.inl rfl) rfl rfl (by first | exact Nat.zero_le _ | exact Int.le_refl 0 | exact ee0) (by first | exact Nat.zero_le _ | exact Int.le_refl 0 | exact ee0) (by first | exact Nat.zero_le _ | exact Int.le_refl 0 | exact ee0) (by first | exact Nat.zero_le _ | exact Int.le_refl 0 | exact ee0) (by first | exact Nat.zero_le _ | exact Int.le_refl 0 | exact ee0) (by first | exact Nat.zero_le _ | exact Int.le_refl 0 | exact ee0) (by first | exact Nat.zero_le _ | exact Int.le_refl 0 | exact ee0)
  · simp only [Int.reduceEq, ↓reduceIte]
    exact right_of' _ _ [8, 10] (has_of rfl rfl rfl rfl rfl rfl rfl p80 rfl pH rfl) rfl rfl (kk 8 (by decide)) (pp 0 (by decide)) (.inl rfl) rfl rfl (by first | exact Nat.zero_le _ | exact Int.le_refl 0 | exact ee0) (by first | exact Nat.zero_le _ | exact Int.le_refl 0 | exact ee0) (by first | exact Nat.zero_le _ | exact Int.le_refl 0 | exact ee0) (show B80.l.length ≤ 80 by omega) (by first | exact Nat.zero_le _ | exact Int.le_refl 0 | exact ee0) (show 0 ≤ CH by omega) (by first | exact Nat.zero_le _ | exact Int.le_refl 0 | exact ee0)
  · simp only [Int.reduceEq, ↓reduceIte]
    exact right_of' _ _ [8] (has_of rfl rfl rfl rfl rfl rfl rfl p80 rfl rfl rfl) rfl rfl (kk 9 (by decide)) (pp 0 (by decide)) (.inl rfl) rfl rfl (by first | exact Nat.zero_le _ | exact Int.le_refl 0 | exact ee0) (by first | exact Nat.zero_le _ | exact Int.le_refl 0 | exact ee0) (by first | exact Nat.zero_le _ | exact Int.le_refl 0 | exact ee0) (show B80.l.length ≤ 80 by omega) (by first | exact Nat.zero_le _ | exact Int.le_refl 0 | exact ee0) (by first | exact Nat.zero_le _ | exact Int.le_refl 0 | exact ee0) (by first | exact Nat.zero_le _ | exact Int.le_refl 0 | exact ee0)
  · simp only [Int.reduceEq, ↓reduceIte]
    exact right_of' _ _ [8] (has_of rfl rfl rfl rfl rfl rfl rfl p80 rfl rfl rfl) rfl rfl (kk 10 (by decide)) (pp 0 (by decide)) (.inl rfl) rfl rfl (by first | exact Nat.zero_le _ | exact Int.le_refl 0 | exact ee0) (by first | exact Nat.zero_le _ | exact Int.le_refl 0 | exact ee0) (by first | exact Nat.zero_le _ | exact Int.le_refl 0 | exact ee0) (show B80.l.length ≤ 80 by omega) (by first | exact Nat.zero_le _ | exact Int.le_refl 0 | exact ee0) (by first | exact Nat.zero_le _ | exact Int.le_refl 0 | exact ee0) (by first | exact Nat.zero_le _ | exact Int.le_refl 0 | exact ee0)
  · simp only [Int.reduceEq, ↓reduceIte]
    exact right_of' _ _ [1, 8, 9] (has_of pP rfl rfl rfl rfl rfl rfl p80 p110 rfl rfl) rfl rfl (kk 11 (by decide)) (show 0 ≤ P ∧ P ≤ 2 by omega) (.inl rfl) rfl rfl (by first | exact Nat.zero_le _ | exact Int.le_refl 0 | exact ee0) (by first | exact Nat.zero_le _ | exact Int.le_refl 0 | exact ee0) (by first | exact Nat.zero_le _ | exact Int.le_refl 0 | exact ee0) (show B80.l.length ≤ 80 by omega) (show B110.l.length ≤ 120 by omega) (by first | exact Nat.zero_le _ | exact Int.le_refl 0 | exact ee0) (by first | exact Nat.zero_le _ | exact Int.le_refl 0 | exact ee0)
  · simp only [Int.reduceEq, ↓reduceIte]
    exact right_of' _ _ [8, 10] (has_of rfl rfl rfl rfl rfl rfl rfl p80 rfl pH rfl) rfl rfl (kk 12 (by decide)) (pp 0 (by decide)) (.inl rfl) rfl rfl (by first | exact Nat.zero_le _ | exact Int.le_refl 0 | exact ee0) (by first | exact Nat.zero_le _ | exact Int.le_refl 0 | exact ee0) (by first | exact Nat.zero_le _ | exact Int.le_refl 0 | exact ee0) (show B80.l.length ≤ 80 by omega) (by first | exact Nat.zero_le _ | exact Int.le_refl 0 | exact ee0) (show 0 ≤ CH by omega) (by first | exact Nat.zero_le _ | exact Int.le_refl 0 | exact ee0)
theorem make_chan (kind n : Int) (s : List UInt8) (b : By) : (makeM kind n s b).channel < 9223372036854775808 := by
  have hch : w64 (1 + within1 n 1099511627776) < 9223372036854775808 := by
    have h := within1_in (a := n) (b := 1099511627776) (by omega)
    rw [w64_in (by omega)]; omega
  unfold makeM
  repeat' (refine iteP (P := fun m : Msg => m.channel < 9223372036854775808) (fun _ => ?_) (fun _ => ?_))
  all_goals first | exact hch | (show (0 : Int) < _; omega)
theorem make_name (kind n : Int) (s : List UInt8) (b : By) : (makeM kind n s b).name.length ≤ 1099511627776 := by
  have := (rights (make_right kind n s b)).2.2.2.2.2.2.2.2.2
  omega
end Go.Abs
