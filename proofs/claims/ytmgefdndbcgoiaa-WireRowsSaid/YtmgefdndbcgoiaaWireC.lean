/-
  Own work. Conditions: none. Contracts: a record of numbers. The plain law: the program's stream and the document's go on alike. The plain law: a record that was written is read as it was, by the program and by the document; both read the same. Two ways of two streams that say the same.
-/
import Derived.Test.YtmgefdndbcgoiaaWireB
set_option linter.unusedVariables false
set_option linter.unusedSimpArgs false
set_option linter.unnecessarySimpa false
namespace Go.Abs
open Go.Proofs
set_option maxRecDepth 100000

def cutN (n : Int) (l : List UInt8) (most : Int) : Nat := (within1 n (w64 ((if most < (l.length : Int) then most else (l.length : Int)) + 1))).toNat
def cutB (n : Int) (l : List UInt8) (most : Int) : By := ⟨Nat.beq (cutN n l most) 0, List.take (cutN n l most) (List.drop 0 (List.take (cutN n l most) l))⟩
/-- Record's record. -/
def recM (n : Int) (s : List UInt8) (b : By) : Rec :=
  ⟨w64 (1 + within1 n 2), nameL s, cutB n b.l 16, Num.from (within1 (w64 (n.tdiv 2)) 4294967296), Num.from (within1 (w64 (n.tdiv 7)) 4294967296), cutB (w64 (n.tdiv 3)) b.l 48, within1 (w64 (n.tdiv 11)) 6, within1 (w64 (n.tdiv 13)) 1000, within1 (w64 (n.tdiv 17)) 1099511627776⟩
theorem cut_in (n : Int) (l : List UInt8) (most : Int) (hm : 0 ≤ most ∧ most ≤ 1000) : (0 < w64 ((if most < (l.length : Int) then most else (l.length : Int)) + 1) ∧ w64 ((if most < (l.length : Int) then most else (l.length : Int)) + 1) < 2 ^ 62) ∧ within1 n (w64 ((if most < (l.length : Int) then most else (l.length : Int)) + 1)) = cutN n l most ∧ cutN n l most ≤ l.length ∧ (cutN n l most : Int) ≤ most := by
  have e : w64 ((if most < (l.length : Int) then most else (l.length : Int)) + 1) = (if most < (l.length : Int) then most else (l.length : Int)) + 1 := w64_in (by split <;> omega)
  unfold cutN
  rw [e]
  have h : 0 < (if most < (l.length : Int) then most else (l.length : Int)) + 1 := by split <;> omega
  have h2 := within1_in (a := n) h
  generalize within1 n ((if most < (l.length : Int) then most else (l.length : Int)) + 1) = w at *
  split at h2 <;> rename_i k <;> simp only [k, if_true, if_false] <;> omega
set_option maxHeartbeats 4000000 in
theorem fn34 (n : Int) (s : List UInt8) (b : By) (hs : s.length ≤ 1099511627776) (hb : b.l.length ≤ 1099511627776) : ACalls Try.prog 34 [.int n, .str s, b.A] [] (fun a h => a = .agg (recM n s b).C ∧ h = []) := by
  refine ACalls.tell (K := fun a h => isRec a (recM n s b) ∧ h = []) ?_ ?_
  · refine run34 (Γ := G0 keep34 [(22, e22), (24, e24), (42, e42)]) (own := false) (kn := 0) (.cons ok22 in22 (.cons ok24 in24 (.cons ok42 in42 .nil))) (Nat.le_of_ble_eq_true rfl) rfl (Nat.le_refl _) ?_
    dsimp only [c34, keep34, res34, e22, e24, e42, Num.eta, By.eta, By.A, isRec, recD, run, runOps, onER, doOp, noOp, ifB, onG, onGd, onB, onL, xfB, lookB, ↓fork_true, ↓fork_false, chkC, evc, vOnly, ev, evBin, evUn, evEq, evConv, evSlice, evApp, appSl, appMs, evCall, sfind, srcS, rdS, nilK, ctakeT0, eq1, eqs, shn, ngt, xv, xvs, xi, look, Go.Abs.put, trim, conj, both, argS, leafK, resv, one, one1, ofC, frzL, frzV, hasMs, hasMsL, hlen, hget, hset, hsnoc, htake, lget, ldrop, ltake, lset, lapp, lput, llen, lrep, cget, csub, cexp, exU8, exU32, exInt, cset, cput, capp, clen, toC, csubT, ctakeT, cdropT, celT, mulz, typed, ab?, ai?, au?, zeros, lay, lenS, offS, fulS, cutS, cutT, bnds, below, belowL, hbelow, sbelow, xfind, fits, eqS, eqH, eqO, loopK, sameS, sameH, SameL, Nat.beq, Nat.ble, Int.reduceToNat, Nat.reduceAdd, Nat.reduceMul, Nat.reduceSub, Int.reduceLT, Int.reduceLE, Int.reduceNeg, UInt64.reduceToNat, UInt32.reduceToNat, UInt8.reduceToNat, G0, GL, ev0, ev1, ev2, ev3, ev4, intD, u32D, u8D, boolD, strD, byD, numD, intsD, By.A, Num.C, sp0, s0f, objOf, peelB, startK, entryK, finB, allX, andE, GK, GKL, GR, onR, rfind, noR, fdShape, elT, allN, endR, retR, failK, rangeP, Nat.blt, Nat.succ, evP, l0D, l1D, l2D, frzI, frzR, ownF, frzC, frzA, frzJ, allFz, nestL]
    obtain ⟨p1, p2, p3, p4⟩ := cut_in n b.l 16 (by omega)
    obtain ⟨q1, q2, q3, q4⟩ := cut_in (w64 (n.tdiv 3)) b.l 48 (by omega)
    have hk1 : cutN n b.l 16 ≤ (List.take (cutN n b.l 16) b.l).length := by simp; omega
    have hk2 : cutN (w64 (n.tdiv 3)) b.l 48 ≤ (List.take (cutN (w64 (n.tdiv 3)) b.l 48) b.l).length := by simp; omega
    rw [p2, q2]
    simp only [Int.toNat_natCast, Nat.zero_add]
    refine ⟨by omega, hs, by omega, by omega, by omega, by omega, by omega, by omega, by omega, by omega, by omega, by omega, by trivial, p1, by omega, by omega, by omega, q1, by omega, by omega, by trivial, ⟨hk1, hk2⟩, by trivial, by trivial, by omega, ?_, by trivial⟩
    rfl
  · rintro a h ⟨h1, rfl⟩
    exact ⟨_, _, ⟨rfl, rfl⟩, recD_tell _ _ h1, TellH.refl _⟩
def e34 : SpE := ⟨true, ev3 intD strD byD (fun _ s b => some (s.length ≤ 1099511627776 ∧ b.l.length ≤ 1099511627776)) fun n s b => .agg (recM n s b).C⟩
theorem ok34 : SpE.ok Try.prog 34 e34 := ev3_ok kInt kStr kBy (fun _ _ _ => rfl) (fun n s b h => fn34 n s b h.1 h.2)
end Go.Abs

namespace Go.Abs
set_option maxRecDepth 100000

theorem dec_agree2 (l : List UInt8) (z z' : Bool) : (decW ⟨z, l⟩).isSome = (decR ⟨z', l⟩).isSome ∧ (orZ (decW ⟨z, l⟩)).norm = (orZ (decR ⟨z', l⟩)).norm := by
  cases hw : decW ⟨z, l⟩ with
  | some m =>
    obtain ⟨h1, h2, h3⟩ := decW_some hw
    obtain ⟨d, e1, e2⟩ := decR_back m z' h1 h3
    rw [show m.outW.l = l from h2] at e1
    rw [e1]; exact ⟨rfl, e2.symm⟩
  | none =>
    cases hr : decR ⟨z', l⟩ with
    | none => exact ⟨rfl, rfl⟩
    | some m =>
      obtain ⟨h1, h2, h3⟩ := decR_some hr
      obtain ⟨d, e1, e2⟩ := decW_back m z h1 h3
      rw [show m.outW.l = l from h2] at e1
      rw [hw] at e1; cases e1
theorem catB_l (a b : By) : (catB a b).l = a.l ++ b.l := by
  unfold catB
  split
  · rfl
  · rename_i h
    have h := of_decide_eq_false h
    rw [List.eq_nil_of_length_eq_zero (show a.l.length = 0 by omega), List.eq_nil_of_length_eq_zero (show b.l.length = 0 by omega)]; rfl
/-- Two streams that say the same. -/
structure SwR (p q : Sw) : Prop where
  bad : p.bad = q.bad
  n : p.n = q.n
  b : p.bad = false → p.b.l = q.b.l
theorem SwR.new : SwR Sw.new Sw.new := ⟨rfl, rfl, fun _ => rfl⟩
theorem SwR.over {p q : Sw} (h : SwR p q) : p.over = q.over := by rw [Sw.over, Sw.over, h.bad, h.n]
theorem SwR.wrote {p q : Sw} (h : SwR p q) {b b' : By} (hb : b.l = b'.l) : SwR (p.wrote b) (q.wroteR b') := by
  rw [Sw.wrote, Sw.wroteR, h.over]
  cases ho : q.over with
  | true => exact ⟨rfl, h.n, fun e => by cases e⟩
  | false =>
    have hq : q.bad = false := by rw [Sw.over] at ho; cases hb : q.bad <;> simp_all
    refine ⟨hq.symm, ?_, fun _ => ?_⟩
    · show w64 (p.n + b.l.length) = w64 (q.n + b'.l.length)
      rw [h.n, hb]
    · show (catB p.b b).l = q.b.l ++ b'.l
      rw [catB_l, h.b (h.bad.trans hq), hb]
theorem SwR.way {p q : Sw} (h : SwR p q) : p.way = q.way := by
  cases hb : p.bad with
  | true => rw [Sw.way0 (.inl hb), Sw.way0 (.inl (h.bad.symm.trans hb))]
  | false =>
    have e := h.b hb
    unfold Sw.way Sw.size
    rw [e, ← h.bad]
theorem way_bad {p : Sw} (h : p.way ≠ 0) : p.bad = false := by
  cases hb : p.bad with
  | true => exact absurd (Sw.way0 (.inl hb)) h
  | false => rfl
theorem SwR.told {p q : Sw} (h : SwR p q) : (p.told decW).isSome = (q.told decR).isSome ∧ (orZ (p.told decW)).norm = (orZ (q.told decR)).norm := by
  rw [Sw.told, Sw.told, ← h.way]
  by_cases hw : p.way = 2
  · rw [if_pos hw, if_pos hw]
    have e := h.b (way_bad (by omega))
    have hs : p.size = q.size := by unfold Sw.size; rw [e]
    have := dec_agree2 (q.b.l.take q.size) p.b.nil q.b.nil
    rw [show p.head = ⟨p.b.nil, q.b.l.take q.size⟩ by rw [Sw.head, hs, e], show q.head = ⟨q.b.nil, q.b.l.take q.size⟩ from rfl]
    exact this
  · rw [if_neg hw, if_neg hw]; exact ⟨rfl, rfl⟩
theorem SwR.next {p q : Sw} (h : SwR p q) : SwR (p.nextW decW) (q.nextR decR) := by
  rw [Sw.nextW, Sw.nextR, ← h.way]
  by_cases h0 : p.way = 0
  · rw [if_pos h0, if_pos h0]; exact h
  · rw [if_neg h0, if_neg h0]
    by_cases h1 : p.way = 1
    · rw [if_pos h1, if_pos h1]; exact ⟨rfl, h.n, fun e => by cases e⟩
    · rw [if_neg h1, if_neg h1]
      have hb := way_bad h0
      have e := h.b hb
      have hs : p.size = q.size := by unfold Sw.size; rw [e]
      have ha := (dec_agree2 (q.b.l.take q.size) p.b.nil q.b.nil).1
      rw [show (⟨p.b.nil, q.b.l.take q.size⟩ : By) = p.head by rw [Sw.head, hs, e], show (⟨q.b.nil, q.b.l.take q.size⟩ : By) = q.head from rfl] at ha
      rw [ha]
      refine ⟨rfl, h.n, fun hh => ?_⟩
      have hh : (!(decR q.head).isSome) = false := hh
      cases hx : (decR q.head).isSome with
      | false => rw [hx] at hh; cases hh
      | true =>
        show p.b.l.drop p.size = q.b.l.drop q.size
        rw [hs, e]
theorem wrote_len (p : Sw) (b : By) : (p.wrote b).b.l.length ≤ p.b.l.length + b.l.length := by
  unfold Sw.wrote
  split
  · exact Nat.le_add_right _ _
  · show (catB p.b b).l.length ≤ _; rw [catB_l, List.length_append]; exact Nat.le_refl _
theorem wroteR_len (p : Sw) (b : By) : (p.wroteR b).b.l.length ≤ p.b.l.length + b.l.length := by
  unfold Sw.wroteR
  split
  · exact Nat.le_add_right _ _
  · show (p.b.l ++ b.l).length ≤ _; rw [List.length_append]; exact Nat.le_refl _
theorem nextW_len (p : Sw) : (p.nextW decW).b.l.length ≤ p.b.l.length := by
  unfold Sw.nextW
  split
  · exact Nat.le_refl _
  · split
    · exact Nat.le_refl _
    · show (p.b.l.drop p.size).length ≤ _; rw [List.length_drop]; omega
theorem nextR_len (p : Sw) : (p.nextR decR).b.l.length ≤ p.b.l.length := by
  unfold Sw.nextR
  split
  · exact Nat.le_refl _
  · split
    · exact Nat.le_refl _
    · show (match (decR p.head).isSome with | true => p.rest | false => p.b).l.length ≤ _
      split
      · show (p.b.l.drop p.size).length ≤ _; rw [List.length_drop]; omega
      · exact Nat.le_refl _

/-! ### Each of Make's messages is short enough -/
def wOf (l : List UInt8) : Nat := match decide (0 < (l.length : Int)) with | true => 2 + l.length | false => 0
theorem wOf_le {l : List UInt8} {k : Nat} (h : l.length ≤ k) : wOf l ≤ 2 + k := by unfold wOf; split <;> omega
theorem wOf_nil : wOf [] ≤ 0 := Nat.le_refl _
def SM (m : Msg) : Prop := (m.encW 11).length ≤ 200
theorem size_le (m : Msg) {b0 b1 b2 b3 b4 b5 b6 b7 b8 b9 b10 : Nat} (h0 : wOf (m.fd 0).b.l ≤ b0) (h1 : wOf (m.fd 1).b.l ≤ b1) (h2 : wOf (m.fd 2).b.l ≤ b2) (h3 : wOf (m.fd 3).b.l ≤ b3) (h4 : wOf (m.fd 4).b.l ≤ b4) (h5 : wOf (m.fd 5).b.l ≤ b5)
    (h6 : wOf (m.fd 6).b.l ≤ b6) (h7 : wOf (m.fd 7).b.l ≤ b7) (h8 : wOf (m.fd 8).b.l ≤ b8) (h9 : wOf (m.fd 9).b.l ≤ b9) (h10 : wOf (m.fd 10).b.l ≤ b10) (hb : b0 + b1 + b2 + b3 + b4 + b5 + b6 + b7 + b8 + b9 + b10 ≤ 199) : SM m := by
  show (m.encW 11).length ≤ 200
  have e : (m.encW 11).length = 1 + (wOf (m.fd 0).b.l + wOf (m.fd 1).b.l + wOf (m.fd 2).b.l + wOf (m.fd 3).b.l + wOf (m.fd 4).b.l + wOf (m.fd 5).b.l + wOf (m.fd 6).b.l + wOf (m.fd 7).b.l + wOf (m.fd 8).b.l + wOf (m.fd 9).b.l + wOf (m.fd 10).b.l) := by
    have step : ∀ n, (m.encW (n + 1)).length = (m.encW n).length + wOf (m.fd n).b.l := fun n => by
      simp only [Msg.encW, wOf]
      cases decide (0 < ((m.fd n).b.l.length : Int)) with
      | true => simp only [fieldB, List.length_append, List.length_cons, List.length_nil]; omega
      | false => rfl
    have z : (m.encW 0).length = 1 := rfl
    rw [step, step, step, step, step, step, step, step, step, step, step, z]; omega
  omega
theorem wwhole (n : Int) (k : Nat) (hk : k ≤ 32) : wOf (wholeB n k).l ≤ 2 + k := by
  refine wOf_le ?_
  unfold wholeB
  split
  · simp
  · show (atB (Num.from n) k).length ≤ k; rw [atB_len _ _ hk]; exact Nat.le_refl _
theorem wwhole0 (k : Nat) : wOf (wholeB 0 k).l ≤ 0 := Nat.le_refl _
theorem wfour (x : Num) : wOf (fourB x).l ≤ 6 := by
  refine wOf_le (k := 4) ?_
  unfold fourB
  split <;> simp [be4]
theorem wfour0 : wOf (fourB Num.zero).l ≤ 0 := Nat.le_refl _
set_option maxHeartbeats 1000000 in
theorem make_small (kind n : Int) (s : List UInt8) (b : By) : ((makeM kind n s b).encW 11).length ≤ 200 := by
  have hn : (nameL s).length ≤ 16 := nameOK_len (nameL_ok s).1
  have l16 := (someB_len b n 16 (by omega)).2
  have l48 := (someB_len b n 48 (by omega)).2
  have l80 := (someB_len b n 80 (by omega)).2
  have l120 := (someB_len b n 120 (by omega)).2
  have l110 := (someB_len b (w64 (n.tdiv 5)) 110 (by omega)).2
  have l167 := (someB_len b (w64 (n.tdiv 7)) 16 (by omega)).2
  show SM _
  unfold makeM
  generalize mkK kind = K at *
  generalize mkP n = P at *
  generalize mkA n = A at *
  generalize mkC n = C at *
  generalize nameL s = N at *
  generalize someB b n 16 = B16 at *
  generalize someB b n 48 = B48 at *
  generalize someB b n 80 = B80 at *
  generalize someB b n 120 = B120 at *
  generalize someB b (w64 (n.tdiv 5)) 110 = B110 at *
  generalize someB b (w64 (n.tdiv 7)) 16 = B167 at *
  generalize w64 (1 + within1 n 1099511627776) = CH at *
  generalize w64 (1 + within1 n 11) = EE at *
  have k16 : wOf B16.l ≤ 18 := wOf_le (k := 16) (by omega)
  have k48 : wOf B48.l ≤ 50 := wOf_le (k := 48) (by omega)
  have k80 : wOf B80.l ≤ 82 := wOf_le (k := 80) (by omega)
  have k120 : wOf B120.l ≤ 122 := wOf_le (k := 120) (by omega)
  have k110 : wOf B110.l ≤ 112 := wOf_le (k := 110) (by omega)
  have k167 : wOf B167.l ≤ 18 := wOf_le (k := 16) (by omega)
  have kn : wOf N ≤ 18 := wOf_le hn
  have kP := wwhole P 1 (by omega)
  have kE := wwhole EE 1 (by omega)
  have kC := wwhole CH 8 (by omega)
  have z1 := wwhole0 1
  have z8 := wwhole0 8
  have nl := wOf_nil
  refine iteP (P := SM) (fun _ => iteP (P := SM) (fun _ => ?_) (fun _ => ?_)) (fun _ => iteP (P := SM) (fun _ => iteP (P := SM) (fun _ => ?_) (fun _ => ?_)) (fun _ => iteP (P := SM) (fun _ => ?_) (fun _ => iteP (P := SM) (fun _ => iteP (P := SM) (fun _ => ?_) (fun _ => ?_)) (fun _ => iteP (P := SM) (fun _ => ?_) (fun _ => iteP (P := SM) (fun _ => ?_) (fun _ => iteP (P := SM) (fun _ => ?_) (fun _ => iteP (P := SM) (fun _ => ?_) (fun _ => iteP (P := SM) (fun _ => ?_) (fun _ => iteP (P := SM) (fun _ => ?_) (fun _ => iteP (P := SM) (fun _ => ?_) (fun _ => ?_)))))))))))
  · exact size_le _ kP kn (wfour A) (wfour C) nl nl nl nl nl z8 z1 (by omega)
  · exact size_le _ kP kn (wfour A) wfour0 nl nl nl nl nl z8 z1 (by omega)
  · exact size_le _ kP nl (wfour C) (wfour A) nl k48 nl nl nl z8 z1 (by omega)
  · exact size_le _ kP nl wfour0 (wfour A) k16 nl nl nl nl z8 z1 (by omega)
  · exact size_le _ z1 nl wfour0 wfour0 nl nl k16 nl nl z8 z1 (by omega)
  · exact size_le _ z1 nl wfour0 wfour0 nl nl k167 k80 nl z8 z1 (by omega)
  · exact size_le _ z1 nl wfour0 wfour0 nl nl nl k80 nl z8 z1 (by omega)
  · exact size_le _ z1 nl wfour0 wfour0 nl nl nl nl nl z8 kE (by omega)
  · exact size_le _ kP kn wfour0 wfour0 nl nl nl nl k120 z8 z1 (by omega)
  · exact size_le _ z1 nl wfour0 wfour0 nl nl nl k80 nl kC z1 (by omega)
  · exact size_le _ z1 nl wfour0 wfour0 nl nl nl k80 nl kC z1 (by omega)
  · exact size_le _ z1 nl wfour0 wfour0 nl nl nl k80 nl z8 z1 (by omega)
  · exact size_le _ z1 nl wfour0 wfour0 nl nl nl k80 nl z8 z1 (by omega)
  · exact size_le _ kP nl wfour0 wfour0 nl nl nl k80 k110 z8 z1 (by omega)
  · exact size_le _ z1 nl wfour0 wfour0 nl nl nl nl nl z8 z1 (by omega)
theorem make_isW (kind n : Int) (s : List UInt8) (b : By) : (makeM kind n s b).isW = true := by
  rw [Msg.isW, make_right, decide_eq_true (make_small kind n s b)]; rfl
theorem make_out (kind n : Int) (s : List UInt8) (b : By) : 3 ≤ (makeM kind n s b).outW.l.length ∧ (makeM kind n s b).outW.l.length ≤ 202 ∧ (makeM kind n s b).outW.nil = false := by
  have hw := make_isW kind n s b
  have hs := make_small kind n s b
  generalize makeM kind n s b = m at *
  obtain ⟨x, y, e⟩ := outW_l hw
  refine ⟨by rw [e]; simp only [List.length_cons]; omega, ?_, by rw [Msg.outW, hw]⟩
  rw [Msg.outW, hw]
  simp only [List.length_append, List.length_cons, List.length_nil]; omega
end Go.Abs

namespace Go.Abs
set_option maxRecDepth 100000

def Rec.norm (r : Rec) : Rec := { r with salt := r.salt.full, sea := r.sea.full }
theorem rec_same_norm (m n : Rec) : m.same n = true ↔ m.norm = n.norm := by
  unfold Rec.same
  simp only [Bool.and_eq_true, full_eq, decide_eq_true_eq]
  simp only [beq_iff_eq]
  constructor
  · rintro ⟨h1, h2, h3, h4, h5, h6, h7, h8, h9⟩
    unfold Rec.norm
    rw [h1, h2, h3, h4, h5, h6, h7, h8, h9]
  · intro h
    have e := fun {α : Type} (f : Rec → α) => congrArg f h
    exact ⟨e Rec.proto, e Rec.name, e Rec.salt, e Rec.v, e Rec.key, e Rec.sea, e Rec.toks, e Rec.at_, e Rec.rev⟩
theorem rec_ok_norm (r : Rec) : r.norm.ok = r.ok := rfl
theorem rec_outL_norm (r : Rec) (e : Int → List UInt8) (f : Num → List UInt8) : r.norm.outL e f = r.outL e f := rfl
theorem rec_ok_same {m n : Rec} (h : m.norm = n.norm) : m.ok = n.ok := by rw [← rec_ok_norm, h, rec_ok_norm]
theorem rec_outW_norm (r : Rec) : r.norm.outW = r.outW := by unfold Rec.outW; rw [rec_ok_norm, rec_outL_norm]
theorem rec_outW_same {m n : Rec} (h : m.norm = n.norm) : m.outW = n.outW := by rw [← rec_outW_norm, h, rec_outW_norm]
theorem rec_out_eq (r : Rec) : r.outW = r.outR := by
  unfold Rec.outW Rec.outR
  cases h : r.ok with
  | false => rfl
  | true =>
    have hk := r.oks h
    have e1 := atB8_from (n := r.at_) (by omega)
    have e2 := atB8_from (n := r.rev) (by omega)
    simp only [Rec.outL, e1, e2, atB4]
/-- A record's bytes, piece by piece. -/
theorem rec_bytes {r : Rec} (h : r.ok = true) : r.outW.l = UInt8.ofInt r.proto :: UInt8.ofInt (r.name.length : Int) :: (r.name ++ (UInt8.ofInt (r.salt.l.length : Int) :: (r.salt.l ++ (UInt8.ofInt (r.sea.l.length : Int) :: (r.sea.l ++ (be4 r.v.a0 ++ (be4 r.key.a0 ++ (UInt8.ofInt r.toks :: (atB (Num.from r.at_) 8 ++ atB (Num.from r.rev) 8))))))))) := by
  rw [Rec.outW, h]
  simp [Rec.outL, Rec.w3, Rec.w2, Rec.w1, atB4]
theorem take_app {z bad : Bool} (x t : List UInt8) : (Rd.mk ⟨z, x ++ t⟩ bad).num (x.length : Int) = Num.read x ∧ (Rd.mk ⟨z, x ++ t⟩ bad).next (x.length : Int) = ⟨⟨z, t⟩, bad⟩ := by
  rw [Rd.num, got_le' (by simp), next_le' (by simp)]
  simp
theorem be4_len (w : UInt32) : (be4 w).length = 4 := rfl
theorem take_app4 {z bad : Bool} (w : UInt32) (t : List UInt8) : (Rd.mk ⟨z, be4 w ++ t⟩ bad).num 4 = ⟨w, 0, 0, 0, 0, 0, 0, 0⟩ ∧ (Rd.mk ⟨z, be4 w ++ t⟩ bad).next 4 = ⟨⟨z, t⟩, bad⟩ := by
  have := take_app (z := z) (bad := bad) (be4 w) t
  rw [be4_len, read_be4] at this
  exact this
theorem take_app8 {z bad : Bool} {n : Int} (h : 0 ≤ n ∧ n < 9223372036854775808) (t : List UInt8) : ((Rd.mk ⟨z, atB (Num.from n) 8 ++ t⟩ bad).num 8).i64 = n ∧ (Rd.mk ⟨z, atB (Num.from n) 8 ++ t⟩ bad).next 8 = ⟨⟨z, t⟩, bad⟩ := by
  have := take_app (z := z) (bad := bad) (atB (Num.from n) 8) t
  rw [atB_len _ _ (by omega)] at this
  obtain ⟨h1, h2⟩ := this
  refine ⟨?_, h2⟩
  have h1 : (Rd.mk ⟨z, atB (Num.from n) 8 ++ t⟩ bad).num 8 = _ := h1
  rw [h1, i64_from h]
theorem byteI {n : Int} (h : 0 ≤ n ∧ n ≤ 255) : ((UInt8.ofInt n).toNat : Int) = n := by rw [u8_ofInt]; omega
theorem readW_back (r : Rec) (z : Bool) (h : r.ok = true) (ha : r.at_ < 9223372036854775808) (hr : r.rev < 9223372036854775808) : ∃ d, readW ⟨z, r.outW.l⟩ = some d ∧ d.norm = r.norm := by
  obtain ⟨k1, k2, k3, k4, k5, k6, k7, k8, k9, k10, k11⟩ := r.oks h
  have hn := nameOK_len k3
  have hb := rec_bytes h
  obtain ⟨B, hB⟩ : ∃ B : By, B = ⟨z, (UInt8.ofInt r.proto :: (UInt8.ofInt (r.name.length : Int) :: (r.name ++ (UInt8.ofInt (r.salt.l.length : Int) :: (r.salt.l ++ (UInt8.ofInt (r.sea.l.length : Int) :: (r.sea.l ++ (be4 r.v.a0 ++ (be4 r.key.a0 ++ (UInt8.ofInt r.toks :: (atB (Num.from r.at_) 8 ++ atB (Num.from r.rev) 8)))))))))))⟩ := ⟨_, rfl⟩
  have e0 : rr0 B = ⟨⟨z, (UInt8.ofInt r.proto :: (UInt8.ofInt (r.name.length : Int) :: (r.name ++ (UInt8.ofInt (r.salt.l.length : Int) :: (r.salt.l ++ (UInt8.ofInt (r.sea.l.length : Int) :: (r.sea.l ++ (be4 r.v.a0 ++ (be4 r.key.a0 ++ (UInt8.ofInt r.toks :: (atB (Num.from r.at_) 8 ++ atB (Num.from r.rev) 8)))))))))))⟩, false⟩ := by rw [hB]; rfl
  have n0 := num_one (z := z) (bad := false) (UInt8.ofInt r.proto) (UInt8.ofInt (r.name.length : Int) :: (r.name ++ (UInt8.ofInt (r.salt.l.length : Int) :: (r.salt.l ++ (UInt8.ofInt (r.sea.l.length : Int) :: (r.sea.l ++ (be4 r.v.a0 ++ (be4 r.key.a0 ++ (UInt8.ofInt r.toks :: (atB (Num.from r.at_) 8 ++ atB (Num.from r.rev) 8))))))))))
  have e1 : rr1 B = ⟨⟨z, (UInt8.ofInt (r.name.length : Int) :: (r.name ++ (UInt8.ofInt (r.salt.l.length : Int) :: (r.salt.l ++ (UInt8.ofInt (r.sea.l.length : Int) :: (r.sea.l ++ (be4 r.v.a0 ++ (be4 r.key.a0 ++ (UInt8.ofInt r.toks :: (atB (Num.from r.at_) 8 ++ atB (Num.from r.rev) 8))))))))))⟩, false⟩ := by rw [rr1, e0, next_one]
  obtain ⟨l1, x1⟩ := long_app (z := z) (bad := false) (x := UInt8.ofInt (r.name.length : Int)) (b := r.name) (UInt8.ofInt (r.salt.l.length : Int) :: (r.salt.l ++ (UInt8.ofInt (r.sea.l.length : Int) :: (r.sea.l ++ (be4 r.v.a0 ++ (be4 r.key.a0 ++ (UInt8.ofInt r.toks :: (atB (Num.from r.at_) 8 ++ atB (Num.from r.rev) 8)))))))) (u8_small (by omega))
  have e2 : rr2 B = ⟨⟨z, (UInt8.ofInt (r.salt.l.length : Int) :: (r.salt.l ++ (UInt8.ofInt (r.sea.l.length : Int) :: (r.sea.l ++ (be4 r.v.a0 ++ (be4 r.key.a0 ++ (UInt8.ofInt r.toks :: (atB (Num.from r.at_) 8 ++ atB (Num.from r.rev) 8))))))))⟩, false⟩ := by rw [rr2, e1, x1]
  obtain ⟨l2, x2⟩ := long_app (z := z) (bad := false) (x := UInt8.ofInt (r.salt.l.length : Int)) (b := r.salt.l) (UInt8.ofInt (r.sea.l.length : Int) :: (r.sea.l ++ (be4 r.v.a0 ++ (be4 r.key.a0 ++ (UInt8.ofInt r.toks :: (atB (Num.from r.at_) 8 ++ atB (Num.from r.rev) 8)))))) (u8_small (by omega))
  have e3 : rr3 B = ⟨⟨z, (UInt8.ofInt (r.sea.l.length : Int) :: (r.sea.l ++ (be4 r.v.a0 ++ (be4 r.key.a0 ++ (UInt8.ofInt r.toks :: (atB (Num.from r.at_) 8 ++ atB (Num.from r.rev) 8))))))⟩, false⟩ := by rw [rr3, e2, x2]
  obtain ⟨l3, x3⟩ := long_app (z := z) (bad := false) (x := UInt8.ofInt (r.sea.l.length : Int)) (b := r.sea.l) (be4 r.v.a0 ++ (be4 r.key.a0 ++ (UInt8.ofInt r.toks :: (atB (Num.from r.at_) 8 ++ atB (Num.from r.rev) 8)))) (u8_small (by omega))
  have e4 : rr4 B = ⟨⟨z, (be4 r.v.a0 ++ (be4 r.key.a0 ++ (UInt8.ofInt r.toks :: (atB (Num.from r.at_) 8 ++ atB (Num.from r.rev) 8))))⟩, false⟩ := by rw [rr4, e3, x3]
  obtain ⟨l4, x4⟩ := take_app4 (z := z) (bad := false) r.v.a0 (be4 r.key.a0 ++ (UInt8.ofInt r.toks :: (atB (Num.from r.at_) 8 ++ atB (Num.from r.rev) 8)))
  have e5 : rr5 B = ⟨⟨z, (be4 r.key.a0 ++ (UInt8.ofInt r.toks :: (atB (Num.from r.at_) 8 ++ atB (Num.from r.rev) 8)))⟩, false⟩ := by rw [rr5, e4, x4]
  obtain ⟨l5, x5⟩ := take_app4 (z := z) (bad := false) r.key.a0 (UInt8.ofInt r.toks :: (atB (Num.from r.at_) 8 ++ atB (Num.from r.rev) 8))
  have e6 : rr6 B = ⟨⟨z, (UInt8.ofInt r.toks :: (atB (Num.from r.at_) 8 ++ atB (Num.from r.rev) 8))⟩, false⟩ := by rw [rr6, e5, x5]
  have l6 := num_one (z := z) (bad := false) (UInt8.ofInt r.toks) (atB (Num.from r.at_) 8 ++ atB (Num.from r.rev) 8)
  have e7 : rr7 B = ⟨⟨z, (atB (Num.from r.at_) 8 ++ atB (Num.from r.rev) 8)⟩, false⟩ := by rw [rr7, e6, next_one]
  obtain ⟨l7, x7⟩ := take_app8 (z := z) (bad := false) ⟨k10, ha⟩ (atB (Num.from r.rev) 8)
  have e8 : rr8 B = ⟨⟨z, atB (Num.from r.rev) 8⟩, false⟩ := by rw [rr8, e7, x7]
  obtain ⟨l8, x8⟩ := take_app8 (z := z) (bad := false) ⟨k11, hr⟩ []
  rw [List.append_nil] at l8 x8
  have e9 : rr9 B = ⟨⟨z, []⟩, false⟩ := by rw [rr9, e8, x8]
  have er : recW B = ⟨r.proto, r.name, ⟨z, r.salt.l⟩, r.v, r.key, ⟨z, r.sea.l⟩, r.toks, r.at_, r.rev⟩ := by
    rw [recW, e0, e1, e2, e3, e4, e5, e6, e7, e8, l1, l2, l3, l4, l5, l6, l7, l8, n0, byteI (by omega), byteI (by omega), low_eq k6, low_eq k7]
  have hs : (recW B).norm = r.norm := by rw [er]; rfl
  have hBl : (⟨z, r.outW.l⟩ : By) = B := by rw [hB, hb]
  rw [hBl]
  refine ⟨_, ?_, hs⟩
  rw [readW, rec_ok_same hs, rec_outW_same hs, e9, h, ← hBl]
  simp
/-! ### The document's reader -/
theorem gotR_app {z bad : Bool} (x t : List UInt8) : (Rd.mk ⟨z, x ++ t⟩ bad).gotR (x.length : Int) = ⟨false, x⟩ ∧ (Rd.mk ⟨z, x ++ t⟩ bad).nextR (x.length : Int) = ⟨⟨z, t⟩, bad⟩ := by
  unfold Rd.gotR Rd.nextR
  rw [decide_eq_false (show ¬ (((x ++ t).length : Nat) : Int) < (x.length : Int) by simp; omega)]
  simp
theorem gotR_one {z bad : Bool} (x : UInt8) (t : List UInt8) : (Rd.mk ⟨z, x :: t⟩ bad).gotR 1 = ⟨false, [x]⟩ ∧ (Rd.mk ⟨z, x :: t⟩ bad).nextR 1 = ⟨⟨z, t⟩, bad⟩ := gotR_app (z := z) (bad := bad) [x] t
theorem gotR_4 {z bad : Bool} (w : UInt32) (t : List UInt8) : (Rd.mk ⟨z, be4 w ++ t⟩ bad).gotR 4 = ⟨false, be4 w⟩ ∧ (Rd.mk ⟨z, be4 w ++ t⟩ bad).nextR 4 = ⟨⟨z, t⟩, bad⟩ := gotR_app (z := z) (bad := bad) (be4 w) t
theorem gotR_8 {z bad : Bool} (n : Int) (t : List UInt8) : (Rd.mk ⟨z, eightTo n 8 ++ t⟩ bad).gotR 8 = ⟨false, eightTo n 8⟩ ∧ (Rd.mk ⟨z, eightTo n 8 ++ t⟩ bad).nextR 8 = ⟨⟨z, t⟩, bad⟩ := by
  have := gotR_app (z := z) (bad := bad) (eightTo n 8) t
  rw [eightTo_len] at this
  exact this
theorem longR_app {z bad : Bool} {x : UInt8} {b : List UInt8} (l : List UInt8) (h : x.toNat = b.length) : (Rd.mk ⟨z, x :: (b ++ l)⟩ bad).longR = ⟨false, b⟩ ∧ (Rd.mk ⟨z, x :: (b ++ l)⟩ bad).nextLR = ⟨⟨z, l⟩, bad⟩ := by
  obtain ⟨h1, h2⟩ := gotR_one (z := z) (bad := bad) x (b ++ l)
  rw [Rd.longR, Rd.nextLR, h1, h2, numR_byte, h]
  exact gotR_app b l
theorem readR_back (r : Rec) (z : Bool) (h : r.ok = true) (ha : r.at_ < 9223372036854775808) (hr : r.rev < 9223372036854775808) : ∃ d, readR ⟨z, r.outW.l⟩ = some d ∧ d.norm = r.norm := by
  obtain ⟨k1, k2, k3, k4, k5, k6, k7, k8, k9, k10, k11⟩ := r.oks h
  have hn := nameOK_len k3
  have hb := rec_bytes h
  rw [atB8_from k10, atB8_from k11] at hb
  obtain ⟨B, hB⟩ : ∃ B : By, B = ⟨z, (UInt8.ofInt r.proto :: (UInt8.ofInt (r.name.length : Int) :: (r.name ++ (UInt8.ofInt (r.salt.l.length : Int) :: (r.salt.l ++ (UInt8.ofInt (r.sea.l.length : Int) :: (r.sea.l ++ (be4 r.v.a0 ++ (be4 r.key.a0 ++ (UInt8.ofInt r.toks :: (eightTo r.at_ 8 ++ eightTo r.rev 8)))))))))))⟩ := ⟨_, rfl⟩
  have e0 : ss0 B = ⟨⟨z, (UInt8.ofInt r.proto :: (UInt8.ofInt (r.name.length : Int) :: (r.name ++ (UInt8.ofInt (r.salt.l.length : Int) :: (r.salt.l ++ (UInt8.ofInt (r.sea.l.length : Int) :: (r.sea.l ++ (be4 r.v.a0 ++ (be4 r.key.a0 ++ (UInt8.ofInt r.toks :: (eightTo r.at_ 8 ++ eightTo r.rev 8)))))))))))⟩, false⟩ := by rw [hB]; rfl
  obtain ⟨n0, x0⟩ := gotR_one (z := z) (bad := false) (UInt8.ofInt r.proto) (UInt8.ofInt (r.name.length : Int) :: (r.name ++ (UInt8.ofInt (r.salt.l.length : Int) :: (r.salt.l ++ (UInt8.ofInt (r.sea.l.length : Int) :: (r.sea.l ++ (be4 r.v.a0 ++ (be4 r.key.a0 ++ (UInt8.ofInt r.toks :: (eightTo r.at_ 8 ++ eightTo r.rev 8))))))))))
  have e1 : ss1 B = ⟨⟨z, (UInt8.ofInt (r.name.length : Int) :: (r.name ++ (UInt8.ofInt (r.salt.l.length : Int) :: (r.salt.l ++ (UInt8.ofInt (r.sea.l.length : Int) :: (r.sea.l ++ (be4 r.v.a0 ++ (be4 r.key.a0 ++ (UInt8.ofInt r.toks :: (eightTo r.at_ 8 ++ eightTo r.rev 8))))))))))⟩, false⟩ := by rw [← ss1_eq, e0, x0]
  obtain ⟨l1, x1⟩ := longR_app (z := z) (bad := false) (x := UInt8.ofInt (r.name.length : Int)) (b := r.name) (UInt8.ofInt (r.salt.l.length : Int) :: (r.salt.l ++ (UInt8.ofInt (r.sea.l.length : Int) :: (r.sea.l ++ (be4 r.v.a0 ++ (be4 r.key.a0 ++ (UInt8.ofInt r.toks :: (eightTo r.at_ 8 ++ eightTo r.rev 8)))))))) (u8_small (by omega))
  have e2 : ss2 B = ⟨⟨z, (UInt8.ofInt (r.salt.l.length : Int) :: (r.salt.l ++ (UInt8.ofInt (r.sea.l.length : Int) :: (r.sea.l ++ (be4 r.v.a0 ++ (be4 r.key.a0 ++ (UInt8.ofInt r.toks :: (eightTo r.at_ 8 ++ eightTo r.rev 8))))))))⟩, false⟩ := by rw [← ss2_eq, e1, x1]
  obtain ⟨l2, x2⟩ := longR_app (z := z) (bad := false) (x := UInt8.ofInt (r.salt.l.length : Int)) (b := r.salt.l) (UInt8.ofInt (r.sea.l.length : Int) :: (r.sea.l ++ (be4 r.v.a0 ++ (be4 r.key.a0 ++ (UInt8.ofInt r.toks :: (eightTo r.at_ 8 ++ eightTo r.rev 8)))))) (u8_small (by omega))
  have e3 : ss3 B = ⟨⟨z, (UInt8.ofInt (r.sea.l.length : Int) :: (r.sea.l ++ (be4 r.v.a0 ++ (be4 r.key.a0 ++ (UInt8.ofInt r.toks :: (eightTo r.at_ 8 ++ eightTo r.rev 8))))))⟩, false⟩ := by rw [← ss3_eq, e2, x2]
  obtain ⟨l3, x3⟩ := longR_app (z := z) (bad := false) (x := UInt8.ofInt (r.sea.l.length : Int)) (b := r.sea.l) (be4 r.v.a0 ++ (be4 r.key.a0 ++ (UInt8.ofInt r.toks :: (eightTo r.at_ 8 ++ eightTo r.rev 8)))) (u8_small (by omega))
  have e4 : ss4 B = ⟨⟨z, (be4 r.v.a0 ++ (be4 r.key.a0 ++ (UInt8.ofInt r.toks :: (eightTo r.at_ 8 ++ eightTo r.rev 8))))⟩, false⟩ := by rw [← ss4_eq, e3, x3]
  obtain ⟨l4, x4⟩ := gotR_4 (z := z) (bad := false) r.v.a0 (be4 r.key.a0 ++ (UInt8.ofInt r.toks :: (eightTo r.at_ 8 ++ eightTo r.rev 8)))
  have e5 : ss5 B = ⟨⟨z, (be4 r.key.a0 ++ (UInt8.ofInt r.toks :: (eightTo r.at_ 8 ++ eightTo r.rev 8)))⟩, false⟩ := by rw [← ss5_eq, e4, x4]
  obtain ⟨l5, x5⟩ := gotR_4 (z := z) (bad := false) r.key.a0 (UInt8.ofInt r.toks :: (eightTo r.at_ 8 ++ eightTo r.rev 8))
  have e6 : ss6 B = ⟨⟨z, (UInt8.ofInt r.toks :: (eightTo r.at_ 8 ++ eightTo r.rev 8))⟩, false⟩ := by rw [← ss6_eq, e5, x5]
  obtain ⟨l6, x6⟩ := gotR_one (z := z) (bad := false) (UInt8.ofInt r.toks) (eightTo r.at_ 8 ++ eightTo r.rev 8)
  have e7 : ss7 B = ⟨⟨z, (eightTo r.at_ 8 ++ eightTo r.rev 8)⟩, false⟩ := by rw [← ss7_eq, e6, x6]
  obtain ⟨l7, x7⟩ := gotR_8 (z := z) (bad := false) r.at_ (eightTo r.rev 8)
  have e8 : ss8 B = ⟨⟨z, eightTo r.rev 8⟩, false⟩ := by rw [← ss8_eq, e7, x7]
  obtain ⟨l8, x8⟩ := gotR_8 (z := z) (bad := false) r.rev []
  rw [List.append_nil] at l8 x8
  have e9 : ss9 B = ⟨⟨z, []⟩, false⟩ := by rw [← ss9_eq, e8, x8]
  have er : recR B = ⟨r.proto, r.name, ⟨false, r.salt.l⟩, r.v, r.key, ⟨false, r.sea.l⟩, r.toks, r.at_, r.rev⟩ := by
    rw [← recR_eq, e0, e1, e2, e3, e4, e5, e6, e7, e8, n0, l1, l2, l3, l4, l5, l6, l7, l8]
    dsimp only
    rw [numR_byte, numR_byte, numR_eight ⟨k10, ha⟩, numR_eight ⟨k11, hr⟩, read_be4, read_be4, low_eq k6, low_eq k7, byteI (by omega), byteI (by omega)]
  have hs : (recR B).norm = r.norm := by rw [er]; rfl
  have hBl : (⟨z, r.outW.l⟩ : By) = B := by rw [hB, hb]
  rw [hBl]
  refine ⟨_, ?_, hs⟩
  have h2 : (recR B).outR.l = B.l := by rw [← rec_out_eq, rec_outW_same hs, ← hBl]
  have h3 : (recR B).ok = true := by rw [rec_ok_same hs, h]
  have h4 : (ss9 B).bad = false := by rw [e9]
  rw [readR_eq, h3, h4, h2]
  simp [pickR]
theorem readW_some {b : By} {m : Rec} (h : readW b = some m) : m.ok = true ∧ m.outW.l = b.l ∧ m.at_ < 9223372036854775808 ∧ m.rev < 9223372036854775808 := by
  unfold readW at h
  split at h
  · rename_i hb
    cases h
    simp only [Bool.and_eq_true, beq_iff_eq] at hb
    exact ⟨hb.1, hb.2.2, i64_lt _, i64_lt _⟩
  · cases h
theorem pickR_some {p : Bool} {r m : Rec} (h : pickR p r = some m) : p = true ∧ r = m := by
  cases p with
  | true => rw [pickR] at h; cases h; exact ⟨rfl, rfl⟩
  | false => rw [pickR] at h; cases h
theorem at_of_mk {p : Int} {s : List UInt8} {x : By} {v k : Num} {y : By} {t c f : Int} {r : Rec} (h : Rec.mk p s x v k y t c f = r) : r.at_ = c ∧ r.rev = f := by subst h; exact ⟨rfl, rfl⟩
theorem recR_at (b : By) : (recR b).at_ < 9223372036854775808 := by
  have := (at_of_mk (recR_eq b)).1
  rw [this]; exact numR_lt _
theorem recR_rev (b : By) : (recR b).rev < 9223372036854775808 := by
  have := (at_of_mk (recR_eq b)).2
  rw [this]; exact numR_lt _
theorem readR_some {b : By} {m : Rec} (h : readR b = some m) : m.ok = true ∧ m.outW.l = b.l ∧ m.at_ < 9223372036854775808 ∧ m.rev < 9223372036854775808 := by
  rw [readR_eq] at h
  obtain ⟨hb, hm⟩ := pickR_some h
  simp only [Bool.and_eq_true, beq_iff_eq] at hb
  have h1 : (recR b).at_ < 9223372036854775808 := recR_at b
  have h2 : (recR b).rev < 9223372036854775808 := recR_rev b
  generalize (ss9 b).bad = bd at hb
  generalize recR b = q at *
  subst hm
  exact ⟨hb.2.1, by rw [rec_out_eq]; exact hb.2.2, h1, h2⟩
theorem read_agree (l : List UInt8) (z z' : Bool) : (readW ⟨z, l⟩).isSome = (readR ⟨z', l⟩).isSome ∧ (orZR (readW ⟨z, l⟩)).norm = (orZR (readR ⟨z', l⟩)).norm := by
  cases hw : readW ⟨z, l⟩ with
  | some m =>
    obtain ⟨h1, h2, h3, h4⟩ := readW_some hw
    obtain ⟨d, e1, e2⟩ := readR_back m z' h1 h3 h4
    rw [show m.outW.l = l from h2] at e1
    rw [e1]; exact ⟨rfl, e2.symm⟩
  | none =>
    cases hr : readR ⟨z', l⟩ with
    | none => exact ⟨rfl, rfl⟩
    | some m =>
      obtain ⟨h1, h2, h3, h4⟩ := readR_some hr
      obtain ⟨d, e1, e2⟩ := readW_back m z h1 h3 h4
      rw [show m.outW.l = l from h2] at e1
      rw [hw] at e1; cases e1
theorem read_same (b : By) : (orZR (readW b)).same (orZR (readR b)) = true := (rec_same_norm _ _).2 (read_agree b.l b.nil b.nil).2
theorem rec_inj {m n : Rec} (hm : m.ok = true) (hn : n.ok = true) (cm : m.at_ < 9223372036854775808 ∧ m.rev < 9223372036854775808) (cn : n.at_ < 9223372036854775808 ∧ n.rev < 9223372036854775808) : (m.outW.l == n.outW.l) = m.same n := by
  rw [Bool.eq_iff_iff, beq_iff_eq, rec_same_norm]
  constructor
  · intro h
    obtain ⟨d, e1, e2⟩ := readW_back m false hm cm.1 cm.2
    obtain ⟨d', e3, e4⟩ := readW_back n false hn cn.1 cn.2
    rw [h] at e1
    rw [e1] at e3
    cases e3
    exact e2.symm.trans e4
  · intro h; rw [rec_outW_same h]
/-- Record's records may be. -/
theorem from_low0 {n : Int} (h : 0 ≤ n ∧ n < 4294967296) : (Num.from n).low = true := by
  by_cases h0 : n = 0
  · subst h0; rfl
  · exact (from_low (by omega)).1
theorem rec_right (n : Int) (s : List UInt8) (b : By) : (recM n s b).ok = true ∧ (recM n s b).at_ < 9223372036854775808 ∧ (recM n s b).rev < 9223372036854775808 := by
  have hP := mkP_in n
  have hv := within1_in (a := w64 (n.tdiv 2)) (b := 4294967296) (by omega)
  have hk := within1_in (a := w64 (n.tdiv 7)) (b := 4294967296) (by omega)
  have ht := within1_in (a := w64 (n.tdiv 11)) (b := 6) (by omega)
  have ha := within1_in (a := w64 (n.tdiv 13)) (b := 1000) (by omega)
  have hr := within1_in (a := w64 (n.tdiv 17)) (b := 1099511627776) (by omega)
  obtain ⟨_, _, p3, p4⟩ := cut_in n b.l 16 (by omega)
  obtain ⟨_, _, q3, q4⟩ := cut_in (w64 (n.tdiv 3)) b.l 48 (by omega)
  have l1 : (cutB n b.l 16).l.length ≤ 16 := by simp only [cutB, List.length_take]; omega
  have l2 : (cutB (w64 (n.tdiv 3)) b.l 48).l.length ≤ 48 := by simp only [cutB, List.length_take]; omega
  have hn := (nameL_ok s).1
  unfold recM
  refine ⟨?_, by simp only; omega, by simp only; omega⟩
  simp only [Rec.ok, Bool.and_eq_true, decide_eq_true_eq]
  unfold mkP at hP
  exact ⟨by omega, by omega, hn, l1, l2, from_low0 hv, from_low0 hk, by omega, by omega, by omega, by omega⟩
end Go.Abs

namespace Go.Abs
set_option maxRecDepth 100000

theorem SwR.fork_o {p q : Sw} (h : SwR p q) {A K : Prop} (k : K) : fork (!((!p.over) == (!q.over))) A K := by
  rw [h.over]; exact fork_intro (fun h => by simp at h) (fun _ => k)
theorem SwR.fork_b {p q : Sw} (h : SwR p q) {A K : Prop} (k : K) : fork (!(p.bad == q.bad)) A K := by
  rw [h.bad]; exact fork_intro (fun h => by simp at h) (fun _ => k)
theorem SwR.same {p q : Sw} (h : SwR p q) : (orZ (p.told decW)).same (orZ (q.told decR)) = true := (same_norm _ _).2 h.told.2
theorem SwR.fork_t {p q : Sw} (h : SwR p q) {A B K : Prop} (k : K) : fork (!((p.told decW).isSome == (q.told decR).isSome)) A (fork (!((orZ (p.told decW)).same (orZ (q.told decR)))) B K) := by
  rw [h.told.1, h.same]
  exact fork_intro (fun h => by simp at h) (fun _ => fork_intro (fun h => by cases h) (fun _ => k))
theorem SwR.fork_e {p q : Sw} (h : SwR p q) {A K : Prop} (k : AV.bool true = AV.bool true → A) : fork ((p.told decW).isSome == (q.told decR).isSome) A K := by
  rw [h.told.1]; exact fork_intro (fun _ => k rfl) (fun h => by simp at h)
end Go.Abs
