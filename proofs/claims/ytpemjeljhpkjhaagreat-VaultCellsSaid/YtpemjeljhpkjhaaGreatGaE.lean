/-
  Own work. Conditions: none. The document's sponge: parts, the whole. The document's numbers and padding, as objects. The document's sponge: the whole. The document's sponge: of parts; what a cell says. The code of a law in the s
-/
import Derived.Test.YtpemjeljhpkjhaaGreatGaD
set_option linter.unusedVariables false
set_option linter.unusedSimpArgs false
set_option linter.unnecessarySimpa false
namespace Go.Abs
theorem goGaE1 {P Q : Prop} (k : Q) (h : Hid Q → P := by (refine fun k__ => ?_); (repeat (first | ((first | refine RUN.sreg hsp hkp rfl (fun κ__ h__ => ?_) | refine RUN.reg hsp hkp rfl (fun κ__ h__ => ?_)); dsimp only [go_sem, Nat.succ, Int.reduceToNat, Nat.reduceAdd, Nat.reduceMul, Nat.reduceSub, Int.reduceLT, Int.reduceLE, Int.reduceNeg, UInt64.reduceToNat, UInt32.reduceToNat, UInt8.reduceToNat]; subst h__) | refine RUN.block rfl ?_ | refine RUN.skip rfl ?_ | refine RUN.ret rfl ?_ | (refine RUN.exit rfl ?_; dsimp only [xfind, xfB, Nat.beq]) | (refine RUN.seq rfl (fun κ__ h__ => ?_); subst h__) | (refine RUN.cond rfl (p := true) rfl (fun _ => ?_) (fun h__ => by cases h__)) | (refine RUN.cond rfl (p := false) rfl (fun h__ => by cases h__) (fun _ => ?_)) | refine ⟨by first | trivial | omega | (and_intros <;> first | trivial | rfl | omega) | rfl, ?_⟩)); exact k__.out) : P := h ⟨k⟩
theorem goGaE2 {P Q : Prop} (k : Q) (h : Hid Q → P := by (refine fun k__ => ?_); (repeat (first | ((first | refine RUN.sreg hsp hkp rfl (fun κ__ h__ => ?_) | refine RUN.reg hsp hkp rfl (fun κ__ h__ => ?_)); dsimp only [eR30, psF, By.eta, Int.toNat_natCast, go_sem, Nat.succ, Int.reduceToNat, Nat.reduceAdd, Nat.reduceMul, Nat.reduceSub, Int.reduceLT, Int.reduceLE, Int.reduceNeg, UInt64.reduceToNat, UInt32.reduceToNat, UInt8.reduceToNat]; subst h__) | refine RUN.block rfl ?_ | refine RUN.skip rfl ?_ | refine RUN.ret rfl ?_ | (refine RUN.exit rfl ?_; dsimp only [xfind, xfB, Nat.beq]) | (refine RUN.seq rfl (fun κ__ h__ => ?_); subst h__) | (refine RUN.cond rfl (p := true) rfl (fun _ => ?_) (fun h__ => by cases h__)) | (refine RUN.cond rfl (p := false) rfl (fun h__ => by cases h__) (fun _ => ?_)) | refine ⟨by first | trivial | omega | (and_intros <;> first | trivial | rfl | omega) | rfl, ?_⟩)); exact k__.out) : P := h ⟨k⟩
theorem goGaE3 {P Q : Prop} (k : Q) (h : Hid Q → P := by (refine fun k__ => ?_); (repeat (first | ((first | refine RUN.sreg hsp hkp rfl (fun κ__ h__ => ?_) | refine RUN.reg hsp hkp rfl (fun κ__ h__ => ?_)); dsimp only [eR30o, eR93o, evO, eR94, By.eta, Num.eta, Num.C, Int.toNat_natCast, go_sem, Nat.succ, Int.reduceToNat, Nat.reduceAdd, Nat.reduceMul, Nat.reduceSub, Int.reduceLT, Int.reduceLE, Int.reduceNeg, UInt64.reduceToNat, UInt32.reduceToNat, UInt8.reduceToNat]; subst h__) | refine RUN.block rfl ?_ | refine RUN.skip rfl ?_ | refine RUN.ret rfl ?_ | (refine RUN.exit rfl ?_; dsimp only [xfind, xfB, Nat.beq]) | (refine RUN.seq rfl (fun κ__ h__ => ?_); subst h__) | (refine RUN.cond rfl (p := true) rfl (fun _ => ?_) (fun h__ => by cases h__)) | (refine RUN.cond rfl (p := false) rfl (fun h__ => by cases h__) (fun _ => ?_)) | refine ⟨by first | trivial | omega | (and_intros <;> first | trivial | rfl | omega) | rfl, ?_⟩)); exact k__.out) : P := h ⟨k⟩
theorem goGaE4 {P Q : Prop} (k : Q) (h : Hid Q → P := by (refine fun k__ => ?_); (repeat (first | ((first | refine RUN.sreg hsp hkp rfl (fun κ__ h__ => ?_) | refine RUN.reg hsp hkp rfl (fun κ__ h__ => ?_)); dsimp only [eR29, evR29, eR30o, evO, eR31, sumD, peekL, peekB, abD, allB, not, By.eta, go_sem, Nat.succ, Int.reduceToNat, Nat.reduceAdd, Nat.reduceMul, Nat.reduceSub, Int.reduceLT, Int.reduceLE, Int.reduceNeg, UInt64.reduceToNat, UInt32.reduceToNat, UInt8.reduceToNat]; subst h__) | refine RUN.block rfl ?_ | refine RUN.skip rfl ?_ | refine RUN.ret rfl ?_ | (refine RUN.exit rfl ?_; dsimp only [xfind, xfB, Nat.beq]) | (refine RUN.seq rfl (fun κ__ h__ => ?_); subst h__) | (refine RUN.cond rfl (p := true) rfl (fun _ => ?_) (fun h__ => by cases h__)) | (refine RUN.cond rfl (p := false) rfl (fun h__ => by cases h__) (fun _ => ?_)) | refine ⟨by first | trivial | omega | (and_intros <;> first | trivial | rfl | omega) | rfl, ?_⟩)); exact k__.out) : P := h ⟨k⟩
theorem goGaE5 {P Q : Prop} (k : Q) (h : Hid Q → P := by (refine fun k__ => ?_); (repeat (first | ((first | refine RUN.sreg hsp hkp rfl (fun κ__ h__ => ?_) | refine RUN.reg hsp hkp rfl (fun κ__ h__ => ?_)); dsimp only [eR89, vf, By.eta, Cnt.C, Int.toNat_natCast, go_sem, Nat.succ, Int.reduceToNat, Nat.reduceAdd, Nat.reduceMul, Nat.reduceSub, Int.reduceLT, Int.reduceLE, Int.reduceNeg, UInt64.reduceToNat, UInt32.reduceToNat, UInt8.reduceToNat]; subst h__) | refine RUN.block rfl ?_ | refine RUN.skip rfl ?_ | refine RUN.ret rfl ?_ | (refine RUN.exit rfl ?_; dsimp only [xfind, xfB, Nat.beq]) | (refine RUN.seq rfl (fun κ__ h__ => ?_); subst h__) | (refine RUN.cond rfl (p := true) rfl (fun _ => ?_) (fun h__ => by cases h__)) | (refine RUN.cond rfl (p := false) rfl (fun h__ => by cases h__) (fun _ => ?_)) | refine ⟨by first | trivial | omega | (and_intros <;> first | trivial | rfl | omega) | rfl, ?_⟩)); exact k__.out) : P := h ⟨k⟩
theorem goGaE6 {P Q : Prop} (k : Q) (h : Hid Q → P := by (refine fun k__ => ?_); (repeat (first | ((first | refine RUN.sreg hsp hkp rfl (fun κ__ h__ => ?_) | refine RUN.reg hsp hkp rfl (fun κ__ h__ => ?_)); dsimp only [eR59, eR80, eR81, evV, vtD, rwD, allB, not, By.eta, Ce.eta, Vt.eta, toCe_vf, go_sem, Nat.succ, Int.reduceToNat, Nat.reduceAdd, Nat.reduceMul, Nat.reduceSub, Int.reduceLT, Int.reduceLE, Int.reduceNeg, UInt64.reduceToNat, UInt32.reduceToNat, UInt8.reduceToNat]; subst h__) | refine RUN.block rfl ?_ | refine RUN.skip rfl ?_ | refine RUN.ret rfl ?_ | (refine RUN.exit rfl ?_; dsimp only [xfind, xfB, Nat.beq]) | (refine RUN.seq rfl (fun κ__ h__ => ?_); subst h__) | (refine RUN.cond rfl (p := true) rfl (fun _ => ?_) (fun h__ => by cases h__)) | (refine RUN.cond rfl (p := false) rfl (fun h__ => by cases h__) (fun _ => ?_)) | refine ⟨by first | trivial | omega | (and_intros <;> first | trivial | rfl | omega) | rfl, ?_⟩)); exact k__.out) : P := h ⟨k⟩
theorem goGaE7 {P Q : Prop} (k : Q) (h : Hid Q → P := by (refine fun k__ => ?_); (repeat (first | ((first | refine RUN.sreg hsp hkp rfl (fun κ__ h__ => ?_) | refine RUN.reg hsp hkp rfl (fun κ__ h__ => ?_)); dsimp only [vf, eR59, eR80, eR81, evV, vtD, rwD, allB, not, By.eta, Ce.eta, Vt.eta, toCe_vf, go_sem, Nat.succ, Int.reduceToNat, Nat.reduceAdd, Nat.reduceMul, Nat.reduceSub, Int.reduceLT, Int.reduceLE, Int.reduceNeg, UInt64.reduceToNat, UInt32.reduceToNat, UInt8.reduceToNat]; subst h__) | refine RUN.block rfl ?_ | refine RUN.skip rfl ?_ | refine RUN.ret rfl ?_ | (refine RUN.exit rfl ?_; dsimp only [xfind, xfB, Nat.beq]) | (refine RUN.seq rfl (fun κ__ h__ => ?_); subst h__) | (refine RUN.cond rfl (p := true) rfl (fun _ => ?_) (fun h__ => by cases h__)) | (refine RUN.cond rfl (p := false) rfl (fun h__ => by cases h__) (fun _ => ?_)) | refine ⟨by first | trivial | omega | (and_intros <;> first | trivial | rfl | omega) | rfl, ?_⟩)); exact k__.out) : P := h ⟨k⟩
theorem goGaE8 {P Q : Prop} (k : Q) (h : Hid Q → P := by (refine fun k__ => ?_); (first | refine RUN.sreg hsp hkp rfl (fun κ__ h__ => ?_) | refine RUN.reg hsp hkp rfl (fun κ__ h__ => ?_)); dsimp only [eR30o, eR93o, evO, eR94, By.eta, Num.eta, Num.C, Int.toNat_natCast, go_sem, Nat.succ, Int.reduceToNat, Nat.reduceAdd, Nat.reduceMul, Nat.reduceSub, Int.reduceLT, Int.reduceLE, Int.reduceNeg, UInt64.reduceToNat, UInt32.reduceToNat, UInt8.reduceToNat]; subst h__; exact k__.out) : P := h ⟨k⟩
theorem goGaE9 {P Q : Prop} (k : Q) (h : Hid Q → P := by (refine fun k__ => ?_); (first | refine RUN.sreg hsp hkp rfl (fun κ__ h__ => ?_) | refine RUN.reg hsp hkp rfl (fun κ__ h__ => ?_)); dsimp only [eR29, evR29, eR30o, evO, eR31, sumD, peekL, peekB, abD, allB, not, By.eta, go_sem, Nat.succ, Int.reduceToNat, Nat.reduceAdd, Nat.reduceMul, Nat.reduceSub, Int.reduceLT, Int.reduceLE, Int.reduceNeg, UInt64.reduceToNat, UInt32.reduceToNat, UInt8.reduceToNat]; subst h__; exact k__.out) : P := h ⟨k⟩
open Go.Proofs
set_option maxRecDepth 100000

def sumD : AV → Option (List UInt8)
 | .ab l => some l
 | _ => none
theorem sumD_tell (a : AV) (l : List UInt8) (h : sumD a = some l) : Tell a (.ab l) := by
 unfold sumD at h
 split at h
 ·cases h; exact Tell.refl _
 ·cases h
def kAb : Kd (List UInt8) := ⟨sumD, .ab, sumD_tell, fun _ => rfl⟩
def LR31 (l : List UInt8) : LI where
 X := Nat
 x0 := 0
 pre i := 1 ≤ i ∧ i ≤ 16
 inv i := ([(1, .ptr 0 0 0), (3, .ms false 1 0 0 i 1), (4, .int i)], [⟨0, .ab l, false⟩, ⟨0, .ab (l.take i), false⟩])
 mu i := 16 - i
 ren := true
 peel := true
theorem take_succ_getD {l : List UInt8} {i : Nat} (h : i < l.length) : l.take i ++ [l.getD i 0] = l.take (i + 1) := by
 rw [List.take_add_one, List.getD_eq_getElem?_getD, List.getElem?_eq_getElem h]; rfl
theorem fR31 (l : List UInt8) (hl : l.length = 16) : ACalls Tryz.prog 31 [.ab l] [] (fun r h => r = By.A ⟨false, l⟩ ∧ h = []) := by
 refine o31.runS [] keep31 0 (fun _ _ _ => LR31 l) (own := false) (kn := 0) .nil (Nat.le_of_ble_eq_true rfl) rfl (Nat.le_refl _) (fun Γ hsp hkp hk0 hinv κ hκ => ?_)
 dsimp only [keep31] at hkp
 refine goGaE1 ?_
 refine RUN.peel hk0 hinv rfl rfl (L := LR31 l) rfl rfl rfl (fun κ1 h1 => ?_) (fun (i : Nat) (hi : 1 ≤ i ∧ i ≤ 16) κ1 h1 => ?_)
 ·refine goGaE1 ?_
  subst h1
  dsimp only [entryK, fits, LR31]
  refine ⟨1, by omega, [some 0, some 1], rfl, ?_, by first | rfl | trivial, ?_⟩
  ·exact rn
  ·dsimp only [sameH, sameO, nget, hget, Nat.ble]
   have e := take_succ_getD (l := l) (i := 0) (by omega)
   refine ⟨⟨.inl rfl, rfl, .inl ⟨rfl, rfl⟩⟩, ⟨.inl rfl, rfl, .inl ⟨by rw [← e]; rfl, rfl⟩⟩, trivial⟩
 ·dsimp only [LR31]
  refine goGaE1 ?_
  refine RUN.cond rfl rfl (fun h => ?_) (fun h => ?_)
  ·have h := of_decide_eq_true h
   refine goGaE1 ?_
   have hl2 : (l.take i).length = i := by rw [List.length_take]; omega
   have w1 : w64 ((i : Int) + 1) = ((i + 1 : Nat) : Int) := by rw [w64_in (by omega)]; omega
   rw [hl2, List.take_of_length_le (l := l.take i) (by rw [hl2]; exact Nat.le_mul_of_pos_left _ (by omega)), Nat.zero_add, Int.toNat_natCast, take_succ_getD (by omega), hl2]
   refine ⟨⟨rfl, by omega⟩, ?_⟩
   refine goGaE1 ?_
   rw [w1]
   subst h1
   dsimp only [loopK, fits, LR31]
   refine ⟨i + 1, by omega, by omega, [some 0, some 1], rfl, ?_, by first | rfl | trivial, ?_⟩
   ·exact rn
   ·exact rn
  ·have h := of_decide_eq_false h
   obtain rfl : i = 16 := by omega
   refine goGaE1 ?_
   rw [List.take_of_length_le (by omega), hκ]
   dsimp only [leafK, res31, go_sem, Nat.succ, Int.reduceToNat, Nat.reduceAdd, Nat.reduceMul, Nat.reduceSub, Int.reduceLT, Int.reduceLE, Int.reduceNeg, UInt64.reduceToNat, UInt32.reduceToNat, UInt8.reduceToNat]
   refine ⟨by omega, rfl, rfl, by omega, ?_, rfl⟩
   rw [List.drop_zero, List.take_of_length_le (by omega)]
   show _ = AV.sl false l.length 1 (.ab l) false
   rw [hl]
def eR31 : SpE := ⟨true, ev1 sumD (fun l => some (l.length = 16)) fun l => By.A ⟨false, l⟩⟩
theorem okR31 : SpE.ok Tryz.prog 31 eR31 := ev1_ok kAb (fun _ => rfl) (fun l h => fR31 l h)

def LR62 (ps : List By) : LI where
 X := Nat
 x0 := 0
 pre k := 1 ≤ k ∧ k ≤ ps.length
 inv k := ([(0, partsA ps), (3, .ms false 0 0 0 (partsL ps k).length 1), (4, .int k)], [⟨0, .ab (partsL ps k), false⟩])
 mu k := ps.length - k
 ren := true
 peel := true
theorem partsL_len {ps : List By} (h : ∀ p ∈ ps, p.l.length ≤ 1099511627) : ∀ k, k ≤ ps.length → (partsL ps k).length ≤ k * 1099511635
 | 0, _ => by simp [partsL]
 | k + 1, hk => by
   have := partsL_len h k (by omega)
   have hp := h (ps.getD k ⟨true, []⟩) (by rw [List.getD_eq_getElem?_getD, List.getElem?_eq_getElem (by omega)]; exact List.getElem_mem _)
   rw [partsL, List.length_append, List.length_append, num8_len]
   omega
theorem fR62 (ps : List By) (hb : (0 < ps.length ∧ ps.length ≤ 1000) ∧ ∀ p ∈ ps, p.l.length ≤ 1099511627) : ACalls Tryz.prog 62 [partsA ps] [] (fun r h => r = By.A ⟨false, partsL ps ps.length⟩ ∧ h = []) := by
 refine o62.runS [(30, eR30)] keep62 0 (fun _ _ _ => LR62 ps) (own := false) (kn := 0) (.cons okR30 o30.enter .nil) (Nat.le_of_ble_eq_true rfl) rfl (Nat.le_refl _) (fun Γ hsp hkp hk0 hinv κ hκ => ?_)
 dsimp only [keep62] at hkp
 dsimp only [partsA]
 refine goGaE2 ?_
 refine RUN.peel hk0 hinv rfl rfl (L := LR62 ps) rfl rfl rfl (fun κ1 h1 => ?_) (fun (i : Nat) (hi : 1 ≤ i ∧ i ≤ ps.length) κ1 h1 => ?_)
 ·refine goGaE2 ?_
  refine RUN.cond rfl rfl (fun h => ?_) (fun h => absurd (of_decide_eq_false h) (by omega))
  refine goGaE2 ?_
  have hp := hb.2 (ps.getD 0 ⟨true, []⟩) (by rw [List.getD_eq_getElem?_getD, List.getElem?_eq_getElem (by omega)]; exact List.getElem_mem _)
  have hs : partsL ps 1 = num8 (ps.getD 0 ⟨true, []⟩).l.length ++ (ps.getD 0 ⟨true, []⟩).l := rfl
  have h8 := num8_len ((ps.getD 0 ⟨true, []⟩).l.length : Int)
  rw [take_len]
  generalize num8 ((ps.getD 0 ⟨true, []⟩).l.length : Int) = n8 at hs h8 ⊢
  generalize (ps.getD 0 ⟨true, []⟩).l = p at hs hp ⊢
  refine ⟨by omega, ⟨by omega, by omega⟩, ⟨rfl, by omega⟩, ?_⟩
  rw [h8]
  refine goGaE2 ?_
  subst h1
  dsimp only [entryK, fits, LR62, partsA]
  refine ⟨1, by omega, [some 0], rfl, ?_, by first | rfl | trivial, ?_⟩
  ·rw [hs, List.length_append, h8]
   exact rn
  ·rw [hs]
   exact rn
 ·have hp := hb.2 (ps.getD i ⟨true, []⟩)
  have hl := partsL_len hb.2 i hi.2
  dsimp only [LR62, partsA]
  refine goGaE2 ?_
  refine RUN.cond rfl rfl (fun h => ?_) (fun h => ?_)
  ·have h := of_decide_eq_true h
   have hp := hp (by rw [List.getD_eq_getElem?_getD, List.getElem?_eq_getElem (by omega)]; exact List.getElem_mem _)
   have hs : partsL ps (i + 1) = partsL ps i ++ (num8 (ps.getD i ⟨true, []⟩).l.length ++ (ps.getD i ⟨true, []⟩).l) := rfl
   have w1 : w64 ((i : Int) + 1) = ((i + 1 : Nat) : Int) := by rw [w64_in (by omega)]; omega
   refine goGaE2 ?_
   have h8 := num8_len ((ps.getD i ⟨true, []⟩).l.length : Int)
   rw [take_len]
   generalize num8 ((ps.getD i ⟨true, []⟩).l.length : Int) = n8 at hs h8 ⊢
   generalize (ps.getD i ⟨true, []⟩).l = p at hs hp ⊢
   generalize partsL ps i = L at hs hl ⊢
   have e : List.take ((L.length + n8.length) * (L ++ n8).length) (L ++ n8) = L ++ n8 := by rw [← List.length_append, take_len]
   rw [e]
   refine ⟨⟨rfl, by omega⟩, ⟨by omega, by omega⟩, ⟨by rw [List.length_append], by omega⟩, ?_⟩
   refine goGaE2 ?_
   rw [w1]
   subst h1
   dsimp only [loopK, fits, LR62, partsA]
   refine ⟨i + 1, by omega, by omega, [some 0], rfl, ?_, by first | rfl | trivial, ?_⟩
   ·rw [hs, ← List.append_assoc, List.length_append, List.length_append]
    exact rn
   ·rw [hs, ← List.append_assoc]
    exact rn
  ·have h := of_decide_eq_false h
   obtain rfl : i = ps.length := by omega
   refine goGaE2 ?_
   rw [hκ]
   dsimp only [leafK, res62, By.A, go_sem, Nat.succ, Int.reduceToNat, Nat.reduceAdd, Nat.reduceMul, Nat.reduceSub, Int.reduceLT, Int.reduceLE, Int.reduceNeg, UInt64.reduceToNat, UInt32.reduceToNat, UInt8.reduceToNat]
   refine ⟨by omega, rfl, rfl, by omega, ?_, rfl⟩
   rw [List.drop_zero, List.take_of_length_le (Nat.le_refl _)]
def eR62 : SpE := ⟨true, ev1 partsD (fun ps => some ((0 < ps.length ∧ ps.length ≤ 1000) ∧ ∀ p ∈ ps, p.l.length ≤ 1099511627)) fun ps => By.A ⟨false, partsL ps ps.length⟩⟩
theorem okR62 : SpE.ok Tryz.prog 62 eR62 := ev1_ok kParts (fun _ => rfl) (fun ps h => fR62 ps h)
open Go.Proofs
set_option maxRecDepth 100000

def evO {α : Type} (d : AV → Option α) (pre : α → Prop) (out : α → List UInt8) (xs : List AV) (h : List AO) : ER :=
 match xs with
 | [a] => match d a with
   | some x => .e (some (pre x)) (.ms false (hlen h) 0 0 (out x).length 1) (hsnoc h ⟨0, .ab (out x), false⟩)
   | none => .no
 | _ => .no
theorem evO_ok {P : Program} {f : Nat} {α : Type} (k : Kd α) {pre : α → Prop} {out : α → List UInt8} (hc : ∀ x, pre x → ACalls P f [k.enc x] [] (fun r h => r = .ms false 0 0 0 (out x).length 1 ∧ h = [⟨0, .ab (out x), false⟩])) : SpE.ok P f ⟨true, evO k.dec pre out⟩ := by
 intro args h
 show match evO k.dec pre out args h with | .v C A => _ | .e C A h1 => _ | .k C h1 => _ | .no => _
 unfold evO
 split
 ·rename_i C A he; (repeat' split at he) <;> cases he
 ·rename_i C A h1 he
  split at he
  ·rename_i a
   split at he
   ·rename_i x hp
    cases he
    intro hn
    have := acalls_more (P := P) (f := f) (args := [k.enc x]) (by simp [belowL, k.below]) (by intro o ho; simp at ho; subst ho; rfl) (hc x hn) h
    have e : ren (rho [] h.length) (.ms false 0 0 0 (out x).length 1) = .ms false (hlen h) 0 0 (out x).length 1 := by simp [ren, rho, hlen_eq]
    rw [e] at this
    rw [hsnoc_eq]
    exact ACalls.said (args' := [k.enc x]) ⟨k.tell _ _ hp, trivial⟩ this
   ·cases he
  ·cases he
 ·rename_i C h1 he; (repeat' split at he) <;> cases he
 ·trivial
set_option maxHeartbeats 1000000 in
theorem fR30o (n : Int) : ACalls Tryz.prog 30 [.int n] [] (fun r h => r = .ms false 0 0 0 (num8 n).length 1 ∧ h = [⟨0, .ab (num8 n), false⟩]) := by
 refine o30.run (Γ := GL keep30 [] fun _ => LR30 n) (own := true) (kn := 1) .nil (Nat.le_of_ble_eq_true rfl) rfl (Nat.zero_le _) ?_
 dsimp only [c30, keep30, res30, LR30, go_sem, Nat.succ, Int.reduceToNat, Nat.reduceAdd, Nat.reduceMul, Nat.reduceSub, Int.reduceLT, Int.reduceLE, Int.reduceNeg, UInt64.reduceToNat, UInt32.reduceToNat, UInt8.reduceToNat]
 refine ⟨fork_intro (fun h => ?_) (fun h => by cases h), fun i hi => ?_⟩
 ·and_intros <;> try (first | trivial | omega)
  refine ⟨1, by omega, ?_⟩
  refine ⟨[some 0], rfl, ?_, by first | rfl | trivial, ?_⟩
  ·exact rn
  ·exact rn
 ·have hb := eightTo_len n i
  have e2 : (eightTo n i).take (i * i) = eightTo n i := by
   have := take_len (eightTo n i)
   rwa [hb] at this
  refine fork_intro (fun h => ?_) (fun h => ?_)
  ·have h := of_decide_eq_true h
   have e3 : (UInt64.ofInt (w64 (56 - w64 (8 * (i : Int))))).toNat = 56 - 8 * i := by
    rw [w64_in (n := 8 * (i : Int)) (by omega), w64_in (by omega), show (56 : Int) - 8 * (i : Int) = ((56 - 8 * i : Nat) : Int) by omega]
    simp [UInt64.ofInt]; omega
   rw [w64_in (n := (i : Int) + 1) (by omega)]
   simp only [hb, e2, e3, show min (56 - 8 * i) 64 = 56 - 8 * i by omega]
   refine ⟨⟨trivial, by omega⟩, i + 1, by omega, by omega, [some 0], rfl, ?_, by first | rfl | trivial, ?_⟩
   ·exact rn
   ·exact rn
  ·have h := of_decide_eq_false h
   obtain rfl : i = 8 := by omega
   rw [num8_len, num8_to]
   and_intros <;> first | rfl | trivial
def eR30o : SpE := ⟨true, evO intD (fun _ => True) num8⟩
theorem okR30o : SpE.ok Tryz.prog 30 eR30o := evO_ok kInt (fun n _ => fR30o n)
theorem fR93o (t : By) (hb : t.l.length ≤ 1099511627776) (h0 : 0 < t.l.length) : ACalls Tryz.prog 93 [t.A] [] (fun r h => r = .ms false 0 0 0 (padB t.l).length 1 ∧ h = [⟨0, .ab (padB t.l), false⟩]) := by
 refine o93.runS [] keep93 0 (fun _ _ _ => LR93 t) (own := true) (kn := 1) .nil (Nat.le_of_ble_eq_true rfl) rfl (Nat.zero_le _) (fun Γ hsp hkp hk0 hinv κ hκ => ?_)
 dsimp only [keep93] at hkp
 dsimp only [By.A]
 refine goGaE1 ?_
 refine RUN.loop hk0 hinv rfl rfl (L := LR93 t) rfl rfl rfl ?_ ?_ (fun (k : Nat) (hk : k ≤ (16 - t.l.length % 16) % 16) κ1 h1 => ?_)
 ·dsimp only [LR93, fits]
  refine ⟨[some 0], rfl, ?_, by first | rfl | trivial, ?_⟩
  ·exact rn
  ·dsimp only [sameH, sameO, nget, hget, Nat.ble]
   refine ⟨⟨.inl rfl, rfl, .inl ⟨by rw [List.replicate_zero, List.append_nil], rfl⟩⟩, trivial⟩
 ·exact Nat.zero_le _
 dsimp only [LR93]
 refine goGaE1 ?_
 refine RUN.cond rfl rfl (fun h => ?_) (fun h => ?_)
 ·have h := of_decide_eq_true h
  refine goGaE1 ?_
  have hl : (t.l ++ List.replicate k 0).length = t.l.length + k := by simp
  have e : ((t.l.length + k : Nat) : Int).tmod 16 = (((t.l.length + k) % 16 : Nat) : Int) := rfl
  rw [e] at h
  rw [hl, List.take_of_length_le (by rw [hl]; exact Nat.le_mul_of_pos_left _ (by omega)), hl, List.append_assoc, ← List.replicate_succ']
  refine ⟨⟨rfl, by omega⟩, ?_⟩
  subst h1
  dsimp only [loopK, fits, LR93]
  refine ⟨k + 1, by omega, by omega, [some 0], rfl, ?_, by first | rfl | trivial, ?_⟩
  ·exact rn
  ·exact rn
 ·have h := of_decide_eq_false h
  refine goGaE1 ?_
  have hl : (t.l ++ List.replicate k 0).length = t.l.length + k := by simp
  have e : ((t.l.length + k : Nat) : Int).tmod 16 = (((t.l.length + k) % 16 : Nat) : Int) := rfl
  rw [e] at h
  rw [hκ]
  dsimp only [leafK, res93, go_sem, Nat.succ, Int.reduceToNat, Nat.reduceAdd, Nat.reduceMul, Nat.reduceSub, Int.reduceLT, Int.reduceLE, Int.reduceNeg, UInt64.reduceToNat, UInt32.reduceToNat, UInt8.reduceToNat]
  have hk' : k = (16 - t.l.length % 16) % 16 := by omega
  have hp : padB t.l = t.l ++ List.replicate k 0 := by unfold padB; rw [← hk']
  rw [hp, hl]
  and_intros <;> first | rfl | trivial
def eR93o : SpE := ⟨true, evO byD (fun t => t.l.length ≤ 1099511627776 ∧ 0 < t.l.length) (fun t => padB t.l)⟩
theorem okR93o : SpE.ok Tryz.prog 93 eR93o := evO_ok kBy (fun t h => fR93o t h.1 h.2)
open Go.Proofs
set_option maxRecDepth 100000

def LR61b (x : Num) (t : List UInt8) (o : Nat) : LI where
 X := Nat
 x0 := 0
 pre k := k ≤ 4
 inv k := ([(4, .ptr 0 0 0), (5, .ms false 2 0 0 t.length 1), (6, .ptr 1 0 0), (7, .int o), (8, .int (ilit k))], [⟨0, zero16, false⟩, ⟨0, .agg (xorTo x t o k).C, false⟩, ⟨0, .ab t, false⟩])
 mu k := 4 - k
 ren := false
def LR61a (t : List UInt8) : LI where
 X := Nat
 x0 := 0
 pre k := 16 * k ≤ t.length
 inv k := ([(4, .ptr 0 0 0), (5, .ms false 2 0 0 t.length 1), (6, .ptr 1 0 0), (7, .int (16 * k : Nat))], [⟨0, zero16, false⟩, ⟨0, .agg (absTo Num.zero t k).C, false⟩, ⟨0, .ab t, false⟩])
 mu k := t.length - 16 * k
 ren := true
def LR61c (x : Num) : LI where
 X := Nat
 x0 := 0
 pre k := k ≤ 16
 inv k := ([(4, .ptr 0 0 0), (6, .ptr 1 0 0), (10, .ptr 2 0 0), (11, .int (jlit k))], [⟨0, zero16, false⟩, ⟨0, .agg x.C, false⟩, ⟨0, .agg [sc x k 0, sc x k 1, sc x k 2, sc x k 3, sc x k 4, sc x k 5, sc x k 6, sc x k 7, sc x k 8, sc x k 9, sc x k 10, sc x k 11, sc x k 12, sc x k 13, sc x k 14, sc x k 15], false⟩])
 mu k := 16 - k
 ren := true
def li3 (a b c : LI) (i : Nat) : LI := match Nat.beq i 0 with | true => a | false => match Nat.beq i 2 with | true => b | false => c
def numO : AV → Num
 | .agg [.u32 a, .u32 b, .u32 c, .u32 d, .u32 e, .u32 f, .u32 g, .u32 h] => ⟨a, b, c, d, e, f, g, h⟩
 | _ => Num.zero
def gS (h : List AO) : Num := match h with
 | _ :: o :: _ => numO o.c
 | _ => Num.zero
def oS (s : SL) : Nat := match look s 7 with | .int n => n.toNat | _ => 0
set_option maxHeartbeats 4000000 in
theorem fR61 (nl : Bool) (b : By) (hb : b.l.length ≤ 1099511627000) : ACalls Tryz.prog 61 [.sl true 0 0 (.agg []) true, b.A] [] (fun r h => r = .ab (sumB (rawX b.l)) ∧ h = []) := by
 refine ACalls.tell (K := fun a h => a = .agg ((sumB (rawX b.l)).map .u8) ∧ h = []) ?_ (fun r h hh => ⟨_, _, ⟨rfl, hh.2⟩, by rw [hh.1]; exact tell_ab _, TellH.refl _⟩)
 refine o61.runS [(30, eR30o), (93, eR93o), (94, eR94)] keep61 0 (fun i s h => li3 (LR61a (rawB b.l)) (LR61b (gS h) (rawB b.l) (oS s)) (LR61c (gS h)) i) (own := false) (kn := 0) (.cons okR30o o30.enter (.cons okR93o o93.enter (.cons okR94 o94.enter .nil))) (Nat.le_of_ble_eq_true rfl) rfl (Nat.le_refl _) (fun Γ hsp hkp hk0 hinv κ hκ => ?_)
 dsimp only [keep61] at hkp
 dsimp only [By.A]
 refine goGaE8 ?_
 refine goGaE8 ?_
 have h8 : (num8 ((0 : Nat) : Int)).length = 8 := num8_len _
 rw [take_len, List.drop_zero, Nat.add_zero, List.take_length]
 have hZ : padB (num8 ((0 : Nat) : Int)) = List.replicate 16 0 := by rw [show num8 ((0 : Nat) : Int) = List.replicate 8 0 from rfl]; rfl
 have hZl : (padB (num8 ((0 : Nat) : Int))).length = 16 := by rw [hZ]; rfl
 obtain ⟨Z, hz⟩ : ∃ Z, padB (num8 ((0 : Nat) : Int)) = Z := ⟨_, rfl⟩
 rw [hz] at hZ hZl ⊢
 refine ⟨trivial, ⟨rfl, by omega⟩, ⟨by omega, by omega, by omega⟩, ?_⟩
 refine goGaE8 ?_
 rw [take_len]
 have e : List.take ((Z.length + b.l.length) * (Z ++ b.l).length) (Z ++ b.l) = Z ++ b.l := by rw [← List.length_append, take_len]
 rw [e]
 have hl : (Z ++ b.l ++ [128]).length = Z.length + b.l.length + 1 := by simp; omega
 have ht : List.take (Z.length + b.l.length + 1) (List.drop 0 (Z ++ b.l ++ [128])) = Z ++ b.l ++ [128] := by rw [List.drop_zero, ← hl, List.take_length]
 have hT : padB (Z ++ b.l ++ [128]) = rawB b.l := by rw [hZ]; rfl
 have hTl : (rawB b.l).length % 16 = 0 ∧ (rawB b.l).length ≤ 1099511627100 := by
  rw [← hT]
  unfold padB
  rw [List.length_append, List.length_replicate, hl]
  omega
 rw [ht, hT]
 refine ⟨⟨rfl, by omega⟩, ⟨by simp, by omega⟩, ⟨by rw [hl]; omega, by rw [hl]; omega, by rw [hl]; omega⟩, ?_⟩
 unfold rawX at hκ
 unfold absX at hκ
 generalize rawB b.l = T at hTl hκ hinv ⊢
 clear hT ht hl e
 refine goGaE3 ?_
 refine RUN.loop hk0 hinv rfl rfl (L := LR61a T) rfl rfl rfl ?_ ?_ (fun (k : Nat) (hk : 16 * k ≤ T.length) κ1 h1 => ?_)
 ·dsimp only [LR61a, fits, zero16, Num.C, Num.zero, absTo]
  refine ⟨[some 0, some 4, some 3], rfl, ?_, by first | rfl | trivial, ?_⟩
  ·exact rn
  ·exact rn
 ·exact Nat.zero_le _
 dsimp only [LR61a, zero16, Num.C]
 refine goGaE3 ?_
 refine RUN.cond rfl rfl (fun h => ?_) (fun h => ?_)
 ·have h : 16 * k < T.length := by have := of_decide_eq_true h; omega
  refine goGaE3 ?_
  refine RUN.loop hk0 hinv rfl rfl (L := LR61b (absTo Num.zero T k) T (16 * k)) rfl rfl rfl ?_ ?_ (fun (w : Nat) (hw : w ≤ 4) κ2 h2 => ?_)
  ·dsimp only [LR61b, fits, zero16, Num.C, xorTo, ilit]
   and_intros <;> first | rfl | trivial | exact .inl rfl
  ·exact Nat.zero_le _
  generalize hx : absTo Num.zero T k = x
  have hw' : w = 0 ∨ w = 1 ∨ w = 2 ∨ w = 3 ∨ w = 4 := by omega
  rcases hw' with rfl | rfl | rfl | rfl | rfl
  ·dsimp only [LR61b, zero16, Num.C, ilit]
   have hk2 : 16 * k + 16 ≤ T.length := by omega
   have a0 : w64 (4 * 0) = 0 := rfl
   have a1 : w64 (w64 (4 * 0) + 1) = 1 := rfl
   have a2 : w64 (w64 (4 * 0) + 2) = 2 := rfl
   have a3 : w64 (w64 (4 * 0) + 3) = 3 := rfl
   have e0 : w64 (((16 * k : Nat) : Int) + w64 (4 * 0)) = ((16 * k : Nat) : Int) + w64 (4 * 0) := w64_in (by omega)
   have e1 : w64 (w64 (((16 * k : Nat) : Int) + w64 (4 * 0)) + 1) = ((16 * k : Nat) : Int) + w64 (w64 (4 * 0) + 1) := by rw [e0, w64_in (by omega)]; omega
   have e2 : w64 (w64 (((16 * k : Nat) : Int) + w64 (4 * 0)) + 2) = ((16 * k : Nat) : Int) + w64 (w64 (4 * 0) + 2) := by rw [e0, w64_in (by omega)]; omega
   have e3 : w64 (w64 (((16 * k : Nat) : Int) + w64 (4 * 0)) + 3) = ((16 * k : Nat) : Int) + w64 (w64 (4 * 0) + 3) := by rw [e0, w64_in (by omega)]; omega
   have n0 : (((16 * k : Nat) : Int) + w64 (4 * 0)).toNat = 16 * k + (w64 (4 * 0)).toNat := by omega
   have n1 : (((16 * k : Nat) : Int) + w64 (w64 (4 * 0) + 1)).toNat = 16 * k + (w64 (w64 (4 * 0) + 1)).toNat := by omega
   have n2 : (((16 * k : Nat) : Int) + w64 (w64 (4 * 0) + 2)).toNat = 16 * k + (w64 (w64 (4 * 0) + 2)).toNat := by omega
   have n3 : (((16 * k : Nat) : Int) + w64 (w64 (4 * 0) + 3)).toNat = 16 * k + (w64 (w64 (4 * 0) + 3)).toNat := by omega
   refine goGaE3 ?_
   rw [e1, e2, e3, e0, n0, n1, n2, n3]
   simp only [Nat.zero_add]
   subst h2
   dsimp only [loopK, fits, LR61b, zero16, Num.C, ilit]
   refine ⟨1, by omega, by omega, ?_⟩
   rw [hx]
   clear a0 a1 a2 a3 e0 e1 e2 e3 n0 n1 n2 n3
   and_intros <;> first | rfl | trivial | exact .inl rfl
  ·dsimp only [LR61b, zero16, Num.C, ilit]
   have hk2 : 16 * k + 16 ≤ T.length := by omega
   have a0 : w64 (4 * 1) = 4 := rfl
   have a1 : w64 (w64 (4 * 1) + 1) = 5 := rfl
   have a2 : w64 (w64 (4 * 1) + 2) = 6 := rfl
   have a3 : w64 (w64 (4 * 1) + 3) = 7 := rfl
   have e0 : w64 (((16 * k : Nat) : Int) + w64 (4 * 1)) = ((16 * k : Nat) : Int) + w64 (4 * 1) := w64_in (by omega)
   have e1 : w64 (w64 (((16 * k : Nat) : Int) + w64 (4 * 1)) + 1) = ((16 * k : Nat) : Int) + w64 (w64 (4 * 1) + 1) := by rw [e0, w64_in (by omega)]; omega
   have e2 : w64 (w64 (((16 * k : Nat) : Int) + w64 (4 * 1)) + 2) = ((16 * k : Nat) : Int) + w64 (w64 (4 * 1) + 2) := by rw [e0, w64_in (by omega)]; omega
   have e3 : w64 (w64 (((16 * k : Nat) : Int) + w64 (4 * 1)) + 3) = ((16 * k : Nat) : Int) + w64 (w64 (4 * 1) + 3) := by rw [e0, w64_in (by omega)]; omega
   have n0 : (((16 * k : Nat) : Int) + w64 (4 * 1)).toNat = 16 * k + (w64 (4 * 1)).toNat := by omega
   have n1 : (((16 * k : Nat) : Int) + w64 (w64 (4 * 1) + 1)).toNat = 16 * k + (w64 (w64 (4 * 1) + 1)).toNat := by omega
   have n2 : (((16 * k : Nat) : Int) + w64 (w64 (4 * 1) + 2)).toNat = 16 * k + (w64 (w64 (4 * 1) + 2)).toNat := by omega
   have n3 : (((16 * k : Nat) : Int) + w64 (w64 (4 * 1) + 3)).toNat = 16 * k + (w64 (w64 (4 * 1) + 3)).toNat := by omega
   refine goGaE3 ?_
   rw [e1, e2, e3, e0, n0, n1, n2, n3]
   simp only [Nat.zero_add]
   subst h2
   dsimp only [loopK, fits, LR61b, zero16, Num.C, ilit]
   refine ⟨2, by omega, by omega, ?_⟩
   rw [hx]
   clear a0 a1 a2 a3 e0 e1 e2 e3 n0 n1 n2 n3
   and_intros <;> first | rfl | trivial | exact .inl rfl
  ·dsimp only [LR61b, zero16, Num.C, ilit]
   have hk2 : 16 * k + 16 ≤ T.length := by omega
   have a0 : w64 (4 * 2) = 8 := rfl
   have a1 : w64 (w64 (4 * 2) + 1) = 9 := rfl
   have a2 : w64 (w64 (4 * 2) + 2) = 10 := rfl
   have a3 : w64 (w64 (4 * 2) + 3) = 11 := rfl
   have e0 : w64 (((16 * k : Nat) : Int) + w64 (4 * 2)) = ((16 * k : Nat) : Int) + w64 (4 * 2) := w64_in (by omega)
   have e1 : w64 (w64 (((16 * k : Nat) : Int) + w64 (4 * 2)) + 1) = ((16 * k : Nat) : Int) + w64 (w64 (4 * 2) + 1) := by rw [e0, w64_in (by omega)]; omega
   have e2 : w64 (w64 (((16 * k : Nat) : Int) + w64 (4 * 2)) + 2) = ((16 * k : Nat) : Int) + w64 (w64 (4 * 2) + 2) := by rw [e0, w64_in (by omega)]; omega
   have e3 : w64 (w64 (((16 * k : Nat) : Int) + w64 (4 * 2)) + 3) = ((16 * k : Nat) : Int) + w64 (w64 (4 * 2) + 3) := by rw [e0, w64_in (by omega)]; omega
   have n0 : (((16 * k : Nat) : Int) + w64 (4 * 2)).toNat = 16 * k + (w64 (4 * 2)).toNat := by omega
   have n1 : (((16 * k : Nat) : Int) + w64 (w64 (4 * 2) + 1)).toNat = 16 * k + (w64 (w64 (4 * 2) + 1)).toNat := by omega
   have n2 : (((16 * k : Nat) : Int) + w64 (w64 (4 * 2) + 2)).toNat = 16 * k + (w64 (w64 (4 * 2) + 2)).toNat := by omega
   have n3 : (((16 * k : Nat) : Int) + w64 (w64 (4 * 2) + 3)).toNat = 16 * k + (w64 (w64 (4 * 2) + 3)).toNat := by omega
   refine goGaE3 ?_
   rw [e1, e2, e3, e0, n0, n1, n2, n3]
   simp only [Nat.zero_add]
   subst h2
   dsimp only [loopK, fits, LR61b, zero16, Num.C, ilit]
   refine ⟨3, by omega, by omega, ?_⟩
   rw [hx]
   clear a0 a1 a2 a3 e0 e1 e2 e3 n0 n1 n2 n3
   and_intros <;> first | rfl | trivial | exact .inl rfl
  ·dsimp only [LR61b, zero16, Num.C, ilit]
   have hk2 : 16 * k + 16 ≤ T.length := by omega
   have a0 : w64 (4 * 3) = 12 := rfl
   have a1 : w64 (w64 (4 * 3) + 1) = 13 := rfl
   have a2 : w64 (w64 (4 * 3) + 2) = 14 := rfl
   have a3 : w64 (w64 (4 * 3) + 3) = 15 := rfl
   have e0 : w64 (((16 * k : Nat) : Int) + w64 (4 * 3)) = ((16 * k : Nat) : Int) + w64 (4 * 3) := w64_in (by omega)
   have e1 : w64 (w64 (((16 * k : Nat) : Int) + w64 (4 * 3)) + 1) = ((16 * k : Nat) : Int) + w64 (w64 (4 * 3) + 1) := by rw [e0, w64_in (by omega)]; omega
   have e2 : w64 (w64 (((16 * k : Nat) : Int) + w64 (4 * 3)) + 2) = ((16 * k : Nat) : Int) + w64 (w64 (4 * 3) + 2) := by rw [e0, w64_in (by omega)]; omega
   have e3 : w64 (w64 (((16 * k : Nat) : Int) + w64 (4 * 3)) + 3) = ((16 * k : Nat) : Int) + w64 (w64 (4 * 3) + 3) := by rw [e0, w64_in (by omega)]; omega
   have n0 : (((16 * k : Nat) : Int) + w64 (4 * 3)).toNat = 16 * k + (w64 (4 * 3)).toNat := by omega
   have n1 : (((16 * k : Nat) : Int) + w64 (w64 (4 * 3) + 1)).toNat = 16 * k + (w64 (w64 (4 * 3) + 1)).toNat := by omega
   have n2 : (((16 * k : Nat) : Int) + w64 (w64 (4 * 3) + 2)).toNat = 16 * k + (w64 (w64 (4 * 3) + 2)).toNat := by omega
   have n3 : (((16 * k : Nat) : Int) + w64 (w64 (4 * 3) + 3)).toNat = 16 * k + (w64 (w64 (4 * 3) + 3)).toNat := by omega
   refine goGaE3 ?_
   rw [e1, e2, e3, e0, n0, n1, n2, n3]
   simp only [Nat.zero_add]
   subst h2
   dsimp only [loopK, fits, LR61b, zero16, Num.C, ilit]
   refine ⟨4, by omega, by omega, ?_⟩
   rw [hx]
   clear a0 a1 a2 a3 e0 e1 e2 e3 n0 n1 n2 n3
   and_intros <;> first | rfl | trivial | exact .inl rfl
  ·dsimp only [LR61b, zero16, Num.C, ilit]
   refine goGaE3 ?_
   have ht : mix (xorTo x T (16 * k) 4) = absTo Num.zero T (k + 1) := by rw [← hx]; rfl
   have w1 : w64 (((16 * k : Nat) : Int) + 16) = ((16 * (k + 1) : Nat) : Int) := by rw [w64_in (by omega)]; omega
   rw [ht, w1]
   generalize hy : absTo Num.zero T (k + 1) = y
   subst h1
   dsimp only [loopK, fits, LR61a, zero16, Num.C]
   refine ⟨k + 1, by omega, by omega, [some 0, some 1, some 2], rfl, ?_, by first | rfl | trivial, ?_⟩
   ·exact rn
   ·rw [hy]
    exact rn
 ·have h : 16 * k = T.length := by have := of_decide_eq_false h; omega
  rw [show T.length / 16 = k by omega] at hκ
  generalize absTo Num.zero T k = x at hκ ⊢
  refine goGaE3 ?_
  generalize hy : mix x.flip = y at hκ
  have hy' : mix (Num.mk x.a0 x.a1 x.a2 x.a3 x.a4 x.a5 x.a6 (x.a7 ^^^ 1)) = y := hy
  rw [hy']
  refine RUN.loop hk0 hinv rfl rfl (L := LR61c y) rfl rfl rfl ?_ ?_ (fun (w : Nat) (hw : w ≤ 16) κ2 h2 => ?_)
  ·dsimp only [LR61c, fits, zero16, Num.C, jlit]
   refine ⟨[some 0, some 1, some 3], rfl, ?_, by first | rfl | trivial, ?_⟩
   ·exact rn
   ·exact rn
  ·exact Nat.zero_le _
  by_cases h16 : w = 16
  ·subst h16
   dsimp only [LR61c, zero16, Num.C, jlit, sc, Nat.blt, Nat.ble]
   refine goGaE3 ?_
   rw [hκ]
   dsimp only [leafK, res61, go_sem, Nat.succ, Int.reduceToNat, Nat.reduceAdd, Nat.reduceMul, Nat.reduceSub, Int.reduceLT, Int.reduceLE, Int.reduceNeg, UInt64.reduceToNat, UInt32.reduceToNat, UInt8.reduceToNat]
   and_intros <;> first | trivial | rfl | omega
  ·have hb2 : w + 1 ≤ 16 := by omega
   have hm : 16 - (w + 1) < 16 - w := by omega
   have hw' : w = 0 ∨ w = 1 ∨ w = 2 ∨ w = 3 ∨ w = 4 ∨ w = 5 ∨ w = 6 ∨ w = 7 ∨ w = 8 ∨ w = 9 ∨ w = 10 ∨ w = 11 ∨ w = 12 ∨ w = 13 ∨ w = 14 ∨ w = 15 := by omega
   have u0 : (UInt64.ofInt (w64 (8 * 0))).toNat = (w64 (8 * 0)).toNat := rfl
   have u1 : (UInt64.ofInt (w64 (8 * 1))).toNat = (w64 (8 * 1)).toNat := rfl
   have u2 : (UInt64.ofInt (w64 (8 * 2))).toNat = (w64 (8 * 2)).toNat := rfl
   have u3 : (UInt64.ofInt (w64 (8 * 3))).toNat = (w64 (8 * 3)).toNat := rfl
   have v0 : 0 ≤ w64 (8 * 0) := by decide
   have v1 : 0 ≤ w64 (8 * 1) := by decide
   have v2 : 0 ≤ w64 (8 * 2) := by decide
   have v3 : 0 ≤ w64 (8 * 3) := by decide
   rcases hw' with rfl | rfl | rfl | rfl | rfl | rfl | rfl | rfl | rfl | rfl | rfl | rfl | rfl | rfl | rfl | rfl
   all_goals
    dsimp only [LR61c, zero16, Num.C, jlit, sc, Nat.blt, Nat.ble]
    (repeat (first | ((first | refine RUN.sreg hsp hkp rfl (fun κ__ h__ => ?_) | refine RUN.reg hsp hkp rfl (fun κ__ h__ => ?_)); dsimp only [Int.reduceTDiv, Int.reduceTMod, w64_0, w64_1, w64_2, w64_3, w64_4, w64_5, w64_6, w64_7, w64_8, w64_9, w64_10, w64_11, w64_12, w64_13, w64_14, w64_15, w64_16, w64_17, w64_18, w64_19, w64_20, w64_21, w64_22, w64_23, w64_24, w64_25, w64_26, w64_27, w64_28, w64_29, w64_30, w64_31, w64_32, eR30o, eR93o, evO, eR94, By.eta, Num.eta, Num.C, Int.toNat_natCast, go_sem, Nat.succ, Int.reduceToNat, Nat.reduceAdd, Nat.reduceMul, Nat.reduceSub, Int.reduceLT, Int.reduceLE, Int.reduceNeg, UInt64.reduceToNat, UInt32.reduceToNat, UInt8.reduceToNat]; subst h__) | refine RUN.block rfl ?_ | refine RUN.skip rfl ?_ | refine RUN.ret rfl ?_ | (refine RUN.exit rfl ?_; dsimp only [xfind, xfB, Nat.beq]) | (refine RUN.seq rfl (fun κ__ h__ => ?_); subst h__) | (refine RUN.cond rfl (p := true) rfl (fun _ => ?_) (fun h__ => by cases h__)) | (refine RUN.cond rfl (p := false) rfl (fun h__ => by cases h__) (fun _ => ?_)) | refine ⟨by first | trivial | omega | (and_intros <;> first | trivial | rfl | omega) | rfl, ?_⟩))
    try rw [u0]
    try rw [u1]
    try rw [u2]
    try rw [u3]
    subst h2
    dsimp only [loopK, fits, LR61c, zero16, Num.C]
    refine ⟨_, hb2, hm, [some 0, some 1, some 2], rfl, ?_, by first | rfl | trivial, ?_⟩
    ·exact rn
    ·exact rn
open Go.Proofs
set_option maxRecDepth 100000

def evR61 (xs : List AV) (h : List AO) : ER :=
 match xs with
 | [.sl nl n sz c f, b] => match nl with
   | true => match byD b with
     | some y => .v (some (y.l.length ≤ 1099511627000)) (.ab (sumB (rawX y.l)))
     | none => .no
   | false => .no
 | _ => .no
def eR61 : SpE := ⟨true, evR61⟩
theorem okR61 : SpE.ok Tryz.prog 61 eR61 := by
 intro args h
 show match evR61 args h with | .v C A => _ | .e C A h1 => _ | .k C h1 => _ | .no => _
 unfold evR61
 split
 ·rename_i C A he
  split at he
  ·rename_i nl n sz c f b
   split at he
   ·split at he
    ·rename_i y hy
     cases he
     intro hC
     exact ACalls.said (args' := [.sl true 0 0 (.agg []) true, y.A]) ⟨fun E v r => by
      simp only [rel, if_true] at r ⊢
      exact ⟨r.1, trivial, by simp [relC, relL, ones]⟩, byD_tell _ _ hy, trivial⟩ (acalls_pure rfl rfl (fR61 true y hC) h)
    ·cases he
   ·cases he
  ·cases he
 ·rename_i C A h1 he; (repeat' split at he) <;> cases he
 ·rename_i C h1 he; (repeat' split at he) <;> cases he
 ·trivial
theorem fR29 (ps : List By) (l : List AV) (n : Nat) (fl : Bool) (hl : byDL l = some ps) (hb : (0 < ps.length ∧ ps.length ≤ 100) ∧ ∀ p ∈ ps, p.l.length ≤ 1099511627) : ACalls Tryz.prog 29 [.sl false n 1 (.agg l) fl] [] (fun a h => a = .ab (spongeB ps) ∧ h = []) := by
 refine ACalls.tell (K := fun a h => a = .agg ((spongeB ps).map .u8) ∧ h = []) ?_ (fun r h hh => ⟨_, _, ⟨rfl, hh.2⟩, by rw [hh.1]; exact tell_ab _, TellH.refl _⟩)
 refine o29.run (Γ := G0 keep29 [(62, eR62), (61, eR61)]) (own := false) (kn := 0) (.cons okR62 o62.enter (.cons okR61 o61.enter .nil)) (Nat.le_of_ble_eq_true rfl) rfl (Nat.le_refl _) ?_
 dsimp only [c29, keep29, res29, eR62, eR61, evR61, partsD, allB, not, By.eta, go_sem, Nat.succ, Int.reduceToNat, Nat.reduceAdd, Nat.reduceMul, Nat.reduceSub, Int.reduceLT, Int.reduceLE, Int.reduceNeg, UInt64.reduceToNat, UInt32.reduceToNat, UInt8.reduceToNat]
 rw [hl]
 dsimp only [eR62, eR61, evR61, partsD, allB, not, By.eta, go_sem, Nat.succ, Int.reduceToNat, Nat.reduceAdd, Nat.reduceMul, Nat.reduceSub, Int.reduceLT, Int.reduceLE, Int.reduceNeg, UInt64.reduceToNat, UInt32.reduceToNat, UInt8.reduceToNat]
 have hp := partsL_len hb.2 ps.length (Nat.le_refl _)
 rw [sponge_raw]
 generalize rawX (partsL ps ps.length) = x
 exact ⟨⟨⟨hb.1.1, by omega⟩, hb.2⟩, by omega, ⟨rfl, rfl⟩, Nat.le_of_ble_eq_true rfl, rfl, rfl, by omega, rfl, rfl⟩
def evR29 (xs : List AV) (h : List AO) : ER :=
 match xs with
 | [.sl nl n sz c f] => match c with
   | .agg l => match peekL h l with
     | some (C, ps) => match allB [not nl, Nat.beq sz 1] with
       | true => .v (both C (some ((0 < ps.length ∧ ps.length ≤ 100) ∧ ∀ p ∈ ps, p.l.length ≤ 1099511627))) (.ab (spongeB ps))
       | false => .no
     | none => .no
   | _ => .no
 | _ => .no
def eR29 : SpE := ⟨false, evR29⟩
theorem okR29 : SpE.ok Tryz.prog 29 eR29 := by
 intro args h
 show match evR29 args h with | .v C A => _ | .e C A h1 => _ | .k C h1 => _ | .no => _
 unfold evR29
 split
 ·rename_i C A he
  split at he
  ·rename_i nl n sz c f
   split at he
   ·rename_i l
    split at he
    ·rename_i C' ps hp
     split at he
     ·rename_i hb
      cases he
      intro hC
      obtain ⟨c1, c2⟩ := holds_both.1 hC
      obtain ⟨b1, hb⟩ := allB_cons hb
      obtain ⟨b2, hb⟩ := allB_cons hb
      obtain rfl := Nat.eq_of_beq_eq_true b2
      cases nl with
      | true => cases b1
      | false =>
      refine acalls_borrow rfl (args' := [.sl false n 1 (.agg (ps.map By.A)) f]) (fun B E w vs m r => ?_) (fR29 ps _ n f (byDL_A ps) c2)
      simp only [relL] at r ⊢
      obtain ⟨u, us, rfl, h1, h2⟩ := r
      exact ⟨u, us, rfl, peek_sl m hp c1 h1, h2⟩
     ·cases he
    ·cases he
   ·cases he
  ·cases he
 ·rename_i C A h1 he; (repeat' split at he) <;> cases he
 ·rename_i C h1 he; (repeat' split at he) <;> cases he
 ·trivial
open Go.Proofs
set_option maxRecDepth 100000
-- sentinel/sentinelref6.said
def N81m : Nat := 27
def keep81m : List Nat := [0, 1, 2, 6, 7]
def res81m : List RV := [(.t 6)]
def c81m : CC :=
 (.seq (.reg [⟨(some 6), (.mov (.c (.sl true 0 0 (.agg []) true))), none, 2⟩] [])
 (.seq (.reg [⟨(some 8), (.mov (.t 1)), none, 2⟩, ⟨(some 9), (.call (.c (.fn 30 [])) [(.t 8)]), none, 2⟩, ⟨(some 10), (.mov (.t 2)), none, 2⟩, ⟨(some 11), (.len false (.t 10)), none, 2⟩, ⟨(some 12), (.conv .iu8 (.t 11)), none, 2⟩, ⟨(some 13), (.bsl false .u8 1 1 [(.u8 0)] [(0, (1, (.t 12)))]), none, 2⟩, ⟨(some 14), (.app true 1 1 (.t 9) (.t 13)), none, 2⟩, ⟨(some 15), (.mov (.t 2)), none, 2⟩, ⟨(some 16), (.app true 1 1 (.t 14) (.t 15)), none, 2⟩, ⟨(some 7), (.mov (.t 16)), none, 2⟩] [])
 (.seq (.reg [⟨(some 17), (.mov (.t 7)), none, 2⟩, ⟨(some 18), (.bsl true .u8 1 4 [(.u8 0)] [(0, (1, (.c (.u8 99)))), (1, (1, (.c (.u8 101)))), (2, (1, (.c (.u8 108)))), (3, (1, (.c (.u8 108))))]), none, 2⟩, ⟨(some 19), (.conv .mark (.t 18)), none, 2⟩, ⟨(some 20), (.mov (.t 0)), none, 2⟩, ⟨(some 21), (.call (.c (.fn 30 [])) [(.t 20)]), none, 2⟩, ⟨(some 22), (.mov (.t 7)), none, 2⟩, ⟨(some 23), (.bsl false .other 1 3 [(.sl true 0 0 (.agg []) true)] [(0, (1, (.t 19))), (1, (1, (.t 21))), (2, (1, (.t 22)))]), none, 2⟩, ⟨(some 24), (.call (.c (.fn 29 [])) [(.t 23)]), none, 2⟩, ⟨(some 25), (.call (.c (.fn 31 [])) [(.t 24)]), none, 2⟩, ⟨(some 26), (.app true 1 1 (.t 17) (.t 25)), none, 2⟩, ⟨(some 6), (.mov (.t 26)), none, 2⟩] [])
 .ret)))
theorem o81m : FnOK Tryz.prog 81 N81m res81m c81m := ⟨_, _, Tryz.f81.results.toList, [18], pures, Tryz.func81, show _ = some (Tryz.f81.body.getD .skip) by kernel_rfl, (Array.toArray_toList).symm, by kernel_rfl, by kernel_rfl, by kernel_rfl, by kernel_rfl, follows, callFunc_enter Tryz.func81 (by kernel_rfl) (by kernel_rfl)⟩
open Go.Proofs
set_option maxRecDepth 100000

def saidX (turn : Int) (l : List UInt8) : List UInt8 := num8 turn ++ (UInt8.ofInt l.length :: l)
def saidB (place turn : Int) (l : List UInt8) : List UInt8 := saidX turn l ++ spongeB [⟨false, [99, 101, 108, 108]⟩, ⟨false, num8 place⟩, ⟨false, saidX turn l⟩]
theorem num8_eight {n : Int} (h : 0 ≤ n) : eightB n = num8 n := by rw [num8_to]; exact atB8_from h
theorem said_written {place turn : Int} (b : By) (h : 0 ≤ place) (h' : 0 ≤ turn) : saidB place turn b.l = writtenB place ⟨turn, b⟩ := by
 unfold saidB writtenB tagB bodyB saidX
 dsimp only
 rw [num8_eight h, num8_eight h']
theorem saidX_len (turn : Int) (l : List UInt8) : (saidX turn l).length = 9 + l.length := by unfold saidX; rw [List.length_append, num8_len]; simp; omega
theorem fR81 (place turn : Int) (b : By) (hb : b.l.length ≤ 1000000) : ACalls Tryz.prog 81 [.int place, .int turn, b.A] [] (fun a h => a = By.A ⟨false, saidB place turn b.l⟩ ∧ h = []) := by
 refine o81m.runS [(29, eR29), (30, eR30o), (31, eR31)] keep81m 0 (fun _ _ _ => LR31 []) (own := false) (kn := 0) (.cons okR29 o29.enter (.cons okR30o o30.enter (.cons okR31 o31.enter .nil))) (Nat.le_of_ble_eq_true rfl) rfl (Nat.le_refl _) (fun Γ hsp hkp hk0 hinv κ hκ => ?_)
 dsimp only [keep81m] at hkp
 dsimp only [By.A]
 refine goGaE9 ?_
 refine goGaE9 ?_
 have h8 := num8_len turn
 rw [take_len]
 have e : List.take (((num8 turn).length + 1) * (num8 turn ++ [UInt8.ofInt b.l.length]).length) (num8 turn ++ [UInt8.ofInt b.l.length]) = num8 turn ++ [UInt8.ofInt b.l.length] := by
  rw [show (num8 turn).length + 1 = (num8 turn ++ [UInt8.ofInt b.l.length]).length by simp, take_len]
 have hx : num8 turn ++ [UInt8.ofInt b.l.length] ++ b.l = saidX turn b.l := by unfold saidX; rw [List.append_assoc]; rfl
 have hl := saidX_len turn b.l
 rw [e, hx, h8]
 refine ⟨trivial, ⟨rfl, by omega⟩, ⟨by rw [List.length_append, h8]; rfl, by omega⟩, ?_⟩
 rw [show 8 + 1 + b.l.length = (saidX turn b.l).length by omega]
 have hs : saidB place turn b.l = saidX turn b.l ++ spongeB [⟨false, [99, 101, 108, 108]⟩, ⟨false, num8 place⟩, ⟨false, saidX turn b.l⟩] := rfl
 rw [hs] at hκ
 clear hs hx e
 generalize saidX turn b.l = x at hl hκ ⊢
 refine goGaE9 ?_
 have hp8 := num8_len place
 simp only [List.drop_zero, List.take_length, show List.take 4 ([99, 101, 108, 108] : List UInt8) = [99, 101, 108, 108] from rfl, take_len]
 have hsl : (spongeB [⟨false, [99, 101, 108, 108]⟩, ⟨false, num8 place⟩, ⟨false, x⟩]).length = 16 := rfl
 generalize hS : spongeB [⟨false, [99, 101, 108, 108]⟩, ⟨false, num8 place⟩, ⟨false, x⟩] = S at hsl hκ ⊢
 refine ⟨by omega, trivial, ⟨⟨by decide, by omega, by omega⟩, ⟨by simp, by simp⟩, fun p hp => ?_⟩, hsl, ⟨trivial, by omega⟩, ?_⟩
 ·simp only [List.mem_cons, List.not_mem_nil, or_false] at hp
  rcases hp with rfl | rfl | rfl
  ·decide
  ·show (num8 place).length ≤ _; omega
  ·show x.length ≤ _; omega
 refine goGaE4 ?_
 rw [hκ]
 dsimp only [leafK, res81m, By.A, go_sem, Nat.succ, Int.reduceToNat, Nat.reduceAdd, Nat.reduceMul, Nat.reduceSub, Int.reduceLT, Int.reduceLE, Int.reduceNeg, UInt64.reduceToNat, UInt32.reduceToNat, UInt8.reduceToNat]
 rw [← List.length_append, List.drop_zero, List.take_length]
 exact ⟨by omega, rfl, rfl, by omega, rfl, rfl⟩
def eR81 : SpE := ⟨true, ev3 intD intD byD (fun _ _ b => some (b.l.length ≤ 1000000)) fun p n b => By.A ⟨false, saidB p n b.l⟩⟩
theorem okR81 : SpE.ok Tryz.prog 81 eR81 := ev3_ok kInt kInt kBy (fun _ _ _ => rfl) (fun p n b h => fR81 p n b h)

def LR69 (b : By) : LI where
 X := Nat
 x0 := 0
 pre i := i ≤ 8
 inv i := ([(0, b.A), (3, .int (numTo b.l i)), (4, .int i)], [])
 mu i := 8 - i
 ren := false
theorem fR69 (b : By) (hb : 8 ≤ b.l.length) : ACalls Tryz.prog 69 [b.A] [] (fun r h => r = .int (numTo b.l 8) ∧ h = []) := by
 refine o69.runS [] keep69 0 (fun _ _ _ => LR69 b) (own := false) (kn := 0) .nil (Nat.le_of_ble_eq_true rfl) rfl (Nat.le_refl _) (fun Γ hsp hkp hk0 hinv κ hκ => ?_)
 dsimp only [keep69] at hkp
 dsimp only [By.A]
 refine goGaE4 ?_
 refine RUN.loop hk0 hinv rfl rfl (L := LR69 b) rfl rfl rfl ?_ ?_ (fun (i : Nat) (hi : i ≤ 8) κ1 h1 => ?_)
 ·dsimp only [LR69, fits, By.A, numTo]
  and_intros <;> first | rfl | trivial
 ·exact Nat.zero_le _
 dsimp only [LR69, By.A]
 refine goGaE4 ?_
 refine RUN.cond rfl rfl (fun h => ?_) (fun h => ?_)
 ·have h : i < 8 := by have := of_decide_eq_true h; omega
  have w1 : w64 ((i : Int) + 1) = ((i + 1 : Nat) : Int) := by rw [w64_in (by omega)]; omega
  (repeat (first | ((first | refine RUN.sreg hsp hkp rfl (fun κ__ h__ => ?_) | refine RUN.reg hsp hkp rfl (fun κ__ h__ => ?_)); dsimp only [Int.toNat_natCast, eR29, evR29, eR30o, evO, eR31, sumD, peekL, peekB, abD, allB, not, By.eta, go_sem, Nat.succ, Int.reduceToNat, Nat.reduceAdd, Nat.reduceMul, Nat.reduceSub, Int.reduceLT, Int.reduceLE, Int.reduceNeg, UInt64.reduceToNat, UInt32.reduceToNat, UInt8.reduceToNat]; subst h__) | refine RUN.block rfl ?_ | refine RUN.skip rfl ?_ | refine RUN.ret rfl ?_ | (refine RUN.exit rfl ?_; dsimp only [xfind, xfB, Nat.beq]) | (refine RUN.seq rfl (fun κ__ h__ => ?_); subst h__) | (refine RUN.cond rfl (p := true) rfl (fun _ => ?_) (fun h__ => by cases h__)) | (refine RUN.cond rfl (p := false) rfl (fun h__ => by cases h__) (fun _ => ?_)) | refine ⟨by first | trivial | omega | (and_intros <;> first | trivial | rfl | omega) | rfl, ?_⟩))
  refine ⟨Nat.zero_lt_one, ?_⟩
  refine goGaE4 ?_
  rw [w1]
  subst h1
  dsimp only [loopK, fits, LR69, By.A]
  refine ⟨i + 1, by omega, by omega, ?_⟩
  rw [numTo]
  and_intros <;> first | rfl | trivial
 ·have h : i = 8 := by have := of_decide_eq_false h; omega
  subst h
  refine goGaE4 ?_
  rw [hκ]
  dsimp only [leafK, res69, go_sem, Nat.succ, Int.reduceToNat, Nat.reduceAdd, Nat.reduceMul, Nat.reduceSub, Int.reduceLT, Int.reduceLE, Int.reduceNeg, UInt64.reduceToNat, UInt32.reduceToNat, UInt8.reduceToNat]
  and_intros <;> first | rfl | trivial | omega
def eR69 : SpE := ⟨true, ev1 byD (fun b => some (8 ≤ b.l.length)) fun b => .int (numTo b.l 8)⟩
theorem okR69 : SpE.ok Tryz.prog 69 eR69 := ev1_ok kBy (fun _ => rfl) (fun b h => fR69 b h)
open Go.Proofs
set_option maxRecDepth 100000

def gdR (b : By) : Cnt := ⟨numTo b.l 8, ⟨b.nil, (b.l.drop 9).take (b.l.length - 25)⟩⟩
def gdC (b : By) : Cnt := if cellOK b.l then gdR b else cnt0
def gdOK (n : Int) (b : By) : Bool := cellOK b.l && (saidB n (gdR b).n (gdR b).b.l == b.l)
theorem fR89 (n : Int) (b : By) : ACalls Tryz.prog 89 [.int n, b.A] [] (fun a h => a = .tup [.int (gdC b).n, (gdC b).b.A, .bool (gdOK n b)] ∧ h = []) := by
 refine ACalls.tell (K := fun a h => (∃ x, a = .tup [.int (gdC b).n, x, .bool (gdOK n b)] ∧ byD x = some (gdC b).b) ∧ h = []) ?_ ?_
 ·refine o89.run (Γ := G0 keep89 [(69, eR69), (81, eR81)]) (own := false) (kn := 0) (.cons okR69 o69.enter (.cons okR81 o81.enter .nil)) (Nat.le_of_ble_eq_true rfl) rfl (Nat.le_refl _) ?_
  dsimp only [c89, keep89, res89, eR69, eR81, By.eta, go_sem, Nat.succ, Int.reduceToNat, Nat.reduceAdd, Nat.reduceMul, Nat.reduceSub, Int.reduceLT, Int.reduceLE, Int.reduceNeg, UInt64.reduceToNat, UInt32.reduceToNat, UInt8.reduceToNat]
  have bad : cellOK b.l = false → (∃ x, AV.tup [.int 0, .sl true 0 0 (.agg []) true, .bool false] = .tup [.int (gdC b).n, x, .bool (gdOK n b)] ∧ byD x = some (gdC b).b) := fun h => by
   refine ⟨.sl true 0 0 (.agg []) true, ?_, ?_⟩
   ·rw [gdOK, gdC, h]; rfl
   ·rw [gdC, h]; rfl
  refine fork_intro (fun h => ?_) (fun h => ?_)
  ·have h := of_decide_eq_true h
   have hc : cellOK b.l = false := by rw [cellOK]; simp; omega
   exact ⟨bad hc, rfl⟩
  ·have h := of_decide_eq_false h
   have hx : (b.l.getD 8 0).toNat < 256 := (b.l.getD 8 0).toNat_lt
   have e1 : w64 (25 + ((b.l.getD 8 0).toNat : Int)) = ((25 + (b.l.getD 8 0).toNat : Nat) : Int) := by rw [w64_in (by omega)]; omega
   simp only [List.getD_cons_zero, e1]
   refine ⟨by omega, by simp, fork_intro (fun h1 => ?_) (fun h1 => ?_)⟩
   ·refine ⟨bad ?_, trivial⟩
    rw [cellOK]
    have h1 : ¬ (b.l.length : Int) = ((25 + (b.l.getD 8 0).toNat : Nat) : Int) := by simpa using h1
    rw [decide_eq_false (show ¬ b.l.length = 25 + (b.l.getD 8 0).toNat by omega)]
    simp
   ·have h1 : (b.l.length : Int) = ((25 + (b.l.getD 8 0).toNat : Nat) : Int) := by simpa using h1
    have h2 : b.l.length = 25 + (b.l.getD 8 0).toNat := by omega
    have hc : cellOK b.l = true := by rw [cellOK, decide_eq_true h2]; simp; omega
    have e2 : (w64 ((b.l.length : Int) - 16)).toNat - 9 = b.l.length - 25 := by rw [w64_in (by omega)]; omega
    rw [e2, w64_in (n := (b.l.length : Int) - 16) (by omega)]
    have hl : (List.take (b.l.length - 25) (List.drop 9 b.l)).length = b.l.length - 25 := by rw [List.length_take, List.length_drop]; omega
    refine ⟨by omega, ⟨by omega, by omega, by omega⟩, by omega, ⟨By.A ⟨b.nil, List.take (b.l.length - 25) (List.drop 9 b.l)⟩, ?_, ?_⟩, trivial⟩
    ·rw [gdC, hc, gdOK, hc]
     show AV.tup [.int (numTo b.l 8), .sl b.nil (b.l.length - 25) 1 _ false, _] = .tup [_, .sl b.nil (List.take (b.l.length - 25) (List.drop 9 b.l)).length 1 _ false, _]
     rw [hl]
     rfl
    ·rw [gdC, hc]; rfl
 ·rintro r h1 ⟨⟨x, rfl, hx⟩, rfl⟩
  exact ⟨_, _, ⟨rfl, rfl⟩, Tell.tup ⟨Tell.refl _, byD_tell _ _ hx, Tell.refl _, trivial⟩, TellH.refl _⟩
def eR89 : SpE := ⟨true, ev2 intD byD (fun _ _ => none) fun n b => .tup [.int (gdC b).n, (gdC b).b.A, .bool (gdOK n b)]⟩
theorem okR89 : SpE.ok Tryz.prog 89 eR89 := ev2_ok kInt kBy (fun _ _ => rfl) (fun n b _ => fR89 n b)
open Go.Proofs
set_option maxRecDepth 100000

theorem fR80 (s : Vt) (hs : s.left ≤ 9223372036854775807) : ACalls Tryz.prog 80 [.ptr 0 0 0] [s.o1 1, s.o2] (fun r h => r = .bool s.go ∧ h = [s.tick.o1 1, s.tick.o2]) := by
 refine o80.run (Γ := GK 2 keep80 []) (own := true) (kn := 2) .nil (Nat.le_of_ble_eq_true rfl) rfl (Nat.le_refl _) ?_
 dsimp only [c80, keep80, res80, Vt.o1, Vt.o2, vR, go_sem, Nat.succ, Int.reduceToNat, Nat.reduceAdd, Nat.reduceMul, Nat.reduceSub, Int.reduceLT, Int.reduceLE, Int.reduceNeg, UInt64.reduceToNat, UInt32.reduceToNat, UInt8.reduceToNat]
 refine fork_intro (fun h1 => ?_) (fun h1 => fork_intro (fun h2 => ?_) (fun h2 => fork_intro (fun h3 => ?_) (fun h3 => ?_)))
 ·have hg := go_false (s := s) (.inl h1)
  rw [tick_f hg, hg]
  exact ⟨rfl, rfl⟩
 ·have hg := go_false (s := s) (.inr (by simpa using h2))
  rw [tick_f hg, hg]
  exact ⟨rfl, rfl⟩
 ·have hg := go_true (s := s) h1 (by simpa using h2)
  have h3 := of_decide_eq_true h3
  rw [tick_t hg, hg, if_pos h3, w64_in (by omega)]
  exact ⟨rfl, rfl⟩
 ·have hg := go_true (s := s) h1 (by simpa using h2)
  have h3 := of_decide_eq_false h3
  rw [tick_t hg, hg, if_neg h3]
  exact ⟨rfl, rfl⟩
def eR80 : SpE := ⟨true, evV l0D (fun s _ => s.left ≤ 9223372036854775807) (fun s _ => .bool s.go) (fun s _ => s.tick)⟩
theorem okR80 : SpE.ok Tryz.prog 80 eR80 := evV_ok kl0 (fun _ _ => rfl) (fun s _ h => fR80 s h)

theorem fork_andor {p q v : Bool} {F : Bool → Prop} {A B : Prop} (hA : A = F true) (hB : B = F false) (h : F (p && (q || v))) : fork p (fork q A (F v)) B := by
 subst hA hB
 cases p
 ·exact h
 ·cases q
  ·exact h
  ·exact h
def rcTo (g : Nat → Ce) (n : Int) : Nat → Int × Cnt
 | 0 => (-1, cnt0)
 | k + 1 => if gdOK (2 * n + (k : Int)) (g (2 * n + (k : Int)).toNat).now && (decide ((rcTo g n k).1 < 0) || decide ((rcTo g n k).2.n < (gdC (g (2 * n + (k : Int)).toNat).now).n)) then (2 * n + (k : Int), gdC (g (2 * n + (k : Int)).toNat).now) else rcTo g n k
def LR59 (s : Vt) (n : Int) : LI where
 X := Nat
 x0 := 0
 pre k := k ≤ 2
 inv k := ([(0, .ptr 0 0 0), (1, .int n), (7, .int (rcTo s.c n k).1), (8, .int (rcTo s.c n k).2.n), (9, (rcTo s.c n k).2.b.A), (10, .int (2 * n + k))], [s.o1 1, s.o2])
 mu k := 2 - k
 ren := true
theorem fR59 (s : Vt) (n : Int) (hn : 0 ≤ n ∧ n ≤ 8) : ACalls Tryz.prog 59 [.ptr 0 0 0, .int n] [s.o1 1, s.o2] (fun r h => r = .tup [.int (rcTo s.c n 2).1, .int (rcTo s.c n 2).2.n, (rcTo s.c n 2).2.b.A] ∧ h = [s.o1 1, s.o2]) := by
 refine o59.runS [(89, eR89)] keep59 2 (fun _ _ _ => LR59 s n) (own := true) (kn := 2) (.cons okR89 o89.enter .nil) (Nat.le_of_ble_eq_true rfl) rfl (Nat.le_refl _) (fun Γ hsp hkp hk0 hinv κ hκ => ?_)
 dsimp only [keep59] at hkp
 dsimp only [Vt.o1, Vt.o2, vR]
 refine goGaE5 ?_
 have w2 : w64 (2 * n) = 2 * n := w64_in (by omega)
 refine RUN.loop hk0 hinv rfl rfl (L := LR59 s n) rfl rfl rfl ?_ ?_ (fun (k : Nat) (hk : k ≤ 2) κ1 h1 => ?_)
 ·dsimp only [LR59, fits, Vt.o1, Vt.o2, vR, rcTo, cnt0, By.A]
  rw [w2]
  rw [show 2 * n + ((0 : Nat) : Int) = 2 * n by omega]
  refine ⟨[some 0, some 1], rfl, ?_, by first | rfl | trivial, ?_⟩
  ·dsimp only [sameS, look, lookB, Nat.beq]
   and_intros <;> first | trivial | exact .refl rfl | exact .ptr rfl rfl rfl rfl rfl | exact .tell (byD_tell _ ⟨true, []⟩ rfl) rfl
  ·exact rn
 ·exact Nat.zero_le _
 have w3 : w64 (w64 (2 * n) + 2) = 2 * n + 2 := by rw [w2, w64_in (by omega)]
 dsimp only [LR59, Vt.o1, Vt.o2, vR, By.A]
 refine goGaE5 ?_
 refine RUN.cond rfl rfl (fun h => ?_) (fun h => ?_)
 ·have h := of_decide_eq_true h
  rw [w3] at h
  have w1 : w64 (2 * n + (k : Int) + 1) = 2 * n + ((k + 1 : Nat) : Int) := by rw [w64_in (by omega)]; omega
  refine goGaE5 ?_
  have taken : (gdOK (2 * n + (k : Int)) (s.c (2 * n + (k : Int)).toNat).now && (decide ((rcTo s.c n k).1 < 0) || decide ((rcTo s.c n k).2.n < (gdC (s.c (2 * n + (k : Int)).toNat).now).n))) = true → rcTo s.c n (k + 1) = (2 * n + (k : Int), gdC (s.c (2 * n + (k : Int)).toNat).now) := fun h => by rw [rcTo, if_pos h]
  have not_ : (gdOK (2 * n + (k : Int)) (s.c (2 * n + (k : Int)).toNat).now && (decide ((rcTo s.c n k).1 < 0) || decide ((rcTo s.c n k).2.n < (gdC (s.c (2 * n + (k : Int)).toNat).now).n))) = false → rcTo s.c n (k + 1) = rcTo s.c n k := fun h => by rw [rcTo, if_neg (by rw [h]; exact Bool.false_ne_true)]
  generalize gdC (s.c (2 * n + (k : Int)).toNat).now = C at taken not_ ⊢
  generalize gdOK (2 * n + (k : Int)) (s.c (2 * n + (k : Int)).toNat).now = p at taken not_ ⊢
  generalize hv : decide ((rcTo s.c n k).2.n < C.n) = v at taken not_ ⊢
  generalize hq : decide ((rcTo s.c n k).1 < 0) = q at taken not_ ⊢
  apply fork_andor (v := v)
  ·rfl
  ·rfl
  refine RUN.cond rfl rfl (fun h2 => ?_) (fun h2 => ?_)
  ·have e := taken h2
   refine goGaE5 ?_
   rw [w1]
   subst h1
   dsimp only [loopK, fits, LR59, Vt.o1, Vt.o2, vR, By.A]
   refine ⟨k + 1, by omega, by omega, [some 0, some 1], rfl, ?_, by first | rfl | trivial, ?_⟩
   ·rw [e]
    exact rn
   ·exact rn
  ·have e := not_ h2
   refine goGaE5 ?_
   rw [w1]
   subst h1
   dsimp only [loopK, fits, LR59, Vt.o1, Vt.o2, vR, By.A]
   refine ⟨k + 1, by omega, by omega, [some 0, some 1], rfl, ?_, by first | rfl | trivial, ?_⟩
   ·rw [e]
    exact rn
   ·exact rn
 ·have h := of_decide_eq_false h
  rw [w3] at h
  have hk2 : k = 2 := by omega
  subst hk2
  refine goGaE5 ?_
  rw [hκ]
  generalize rcTo s.c n 2 = R
  dsimp only [leafK, res59, Vt.o1, Vt.o2, vR, By.A, go_sem, Nat.succ, Int.reduceToNat, Nat.reduceAdd, Nat.reduceMul, Nat.reduceSub, Int.reduceLT, Int.reduceLE, Int.reduceNeg, UInt64.reduceToNat, UInt32.reduceToNat, UInt8.reduceToNat]
  and_intros <;> first | rfl | trivial | omega
def eR59 : SpE := ⟨true, evV (l1D intD) (fun _ n => 0 ≤ n ∧ n ≤ 8) (fun s n => .tup [.int (rcTo s.c n 2).1, .int (rcTo s.c n 2).2.n, (rcTo s.c n 2).2.b.A]) (fun s _ => s)⟩
theorem okR59 : SpE.ok Tryz.prog 59 eR59 := evV_ok (kl1 kInt) (fun _ _ => rfl) (fun s n h => fR59 s n h)
open Go.Proofs
set_option maxRecDepth 100000

def rAt (s : Vt) (n : Int) : Int := if (rcTo s.c n 2).1 == 2 * n then 2 * n + 1 else 2 * n
def rB (s : Vt) (n : Int) (b : By) : By := ⟨false, saidB (rAt s n) (w64 ((rcTo s.c n 2).2.n + 1)) b.l⟩
def Vt.rwrite (s : Vt) (n : Int) (b : By) : Vt := if s.go then (s.st40 (rAt s n) (rB s n b)).st41 (rAt s n) else s.st40 (rAt s n) (rB s n b)
def Vt.rwrOK (s : Vt) (n : Int) (b : By) : Bool := s.go && (s.st40 (rAt s n) (rB s n b)).go
theorem rAt_in (s : Vt) (n : Int) (hn : 0 ≤ n ∧ n ≤ 8) : 0 ≤ rAt s n ∧ rAt s n < 18 := by unfold rAt; split <;> omega
theorem tick_c (s : Vt) : s.tick.c = s.c := by unfold Vt.tick; split <;> rfl
theorem tick_left (s : Vt) : s.tick.left ≤ s.left := by unfold Vt.tick; split <;> dsimp only <;> (try split) <;> omega
theorem fR50 (s : Vt) (n : Int) (b : By) (hn : (0 ≤ n ∧ n ≤ 8) ∧ s.left ≤ 9223372036854775807 ∧ b.l.length ≤ 1000000) : ACalls Tryz.prog 50 [.ptr 0 0 0, .int n, b.A] [s.o1 1, s.o2] (fun r h => r = .int (if s.rwrOK n b then 0 else 10) ∧ h = [(s.rwrite n b).o1 1, (s.rwrite n b).o2]) := by
 refine o50.runS [(59, eR59), (80, eR80), (81, eR81)] keep50 2 (fun _ _ _ => LR59 s n) (own := true) (kn := 2) (.cons okR59 o59.enter (.cons okR80 o80.enter (.cons okR81 o81.enter .nil))) (Nat.le_of_ble_eq_true rfl) rfl (Nat.le_refl _) (fun Γ hsp hkp hk0 hinv κ hκ => ?_)
 dsimp only [keep50] at hkp
 obtain ⟨hn1, hl1, hb1⟩ := hn
 have w2 : w64 (2 * n) = 2 * n := w64_in (by omega)
 have hA := rAt_in s n hn1
 dsimp only [Vt.o1, Vt.o2, vR, By.A]
 refine goGaE6 ?_
 generalize hK : RUN Γ _ κ [] κ = K
 refine RUN.cond rfl rfl (fun hc => ?_) (fun hc => ?_)
 all_goals
  refine goGaE6 ?_
  first
   | rw [show w64 (w64 (2 * n) + 1) = rAt s n by rw [w2] at hc ⊢; rw [rAt, if_pos hc, w64_in (by omega)]]
   | rw [show w64 (2 * n) = rAt s n by rw [w2] at hc ⊢; rw [rAt, if_neg (by rw [hc]; exact Bool.false_ne_true)]]
  subst hK
  dsimp only [Vt.o1, Vt.o2, vR]
  refine goGaE6 ?_
  have htl := tick_left s
  cases hg : s.go with
  | false =>
    have ew : s.rwrite n b = s.tick := by rw [Vt.rwrite, hg, Vt.st40, hg]; rfl
    have eo : s.rwrOK n b = false := by rw [Vt.rwrOK, hg]; rfl
    rw [ew, eo] at hκ
    refine goGaE6 ?_
    rw [hκ]
    dsimp only [leafK, res50, Vt.o1, Vt.o2, vR, go_sem, Nat.succ, Int.reduceToNat, Nat.reduceAdd, Nat.reduceMul, Nat.reduceSub, Int.reduceLT, Int.reduceLE, Int.reduceNeg, UInt64.reduceToNat, UInt32.reduceToNat, UInt8.reduceToNat]
    and_intros <;> first | rfl | trivial | omega
  | true =>
    have ew : s.rwrite n b = (s.st40 (rAt s n) (rB s n b)).st41 (rAt s n) := by rw [Vt.rwrite, hg]; rfl
    have eo : s.rwrOK n b = (s.st40 (rAt s n) (rB s n b)).go := by rw [Vt.rwrOK, hg]; rfl
    rw [ew, eo] at hκ
    have e4 : s.st40 (rAt s n) (rB s n b) = ⟨put40 s.c (rAt s n).toNat (rB s n b), s.tick.left, s.tick.dead⟩ := by rw [Vt.st40, hg]; rfl
    dsimp only [Vt.o1, Vt.o2, vR]
    rw [tick_c]
    refine goGaE7 ?_
    simp only [fupd_self, fupd_two]
    dsimp only [By.eta, go_sem, Nat.succ, Int.reduceToNat, Nat.reduceAdd, Nat.reduceMul, Nat.reduceSub, Int.reduceLT, Int.reduceLE, Int.reduceNeg, UInt64.reduceToNat, UInt32.reduceToNat, UInt8.reduceToNat]
    have hp := fupd_vf s.c (rAt s n).toNat ⟨(s.c (rAt s n).toNat).now, rB s n b, true⟩
    refine ⟨by omega, ?_⟩
    rw [show fupd (vf s.c) (rAt s n).toNat [FV.y (s.c (rAt s n).toNat).now.nil (s.c (rAt s n).toNat).now.l, FV.y false (saidB (rAt s n) (w64 ((rcTo s.c n 2).2.n + 1)) b.l), FV.b true] = vf (put40 s.c (rAt s n).toNat (rB s n b)) from hp]
    generalize rB s n b = B at e4 hκ ⊢
    clear hp ew eo
    obtain ⟨s4, h4⟩ : ∃ s4, s.st40 (rAt s n) B = s4 := ⟨_, rfl⟩
    rw [h4] at e4 hκ
    rw [show put40 s.c (rAt s n).toNat B = s4.c by rw [e4], show s.tick.left = s4.left by rw [e4], show s.tick.dead = s4.dead by rw [e4]]
    have hl4 : s4.left ≤ 9223372036854775807 := by rw [e4]; show s.tick.left ≤ _; omega
    clear e4 h4
    generalize rAt s n = A at hA hκ ⊢
    refine goGaE6 ?_
    cases hg4 : s4.go with
    | false =>
      have ew : s4.st41 A = s4.tick := by rw [Vt.st41, hg4]; rfl
      rw [ew, hg4] at hκ
      refine goGaE6 ?_
      rw [hκ]
      dsimp only [leafK, res50, Vt.o1, Vt.o2, vR, go_sem, Nat.succ, Int.reduceToNat, Nat.reduceAdd, Nat.reduceMul, Nat.reduceSub, Int.reduceLT, Int.reduceLE, Int.reduceNeg, UInt64.reduceToNat, UInt32.reduceToNat, UInt8.reduceToNat]
      and_intros <;> first | rfl | trivial | omega
    | true =>
      have ew : s4.st41 A = ⟨put41 s4.c A.toNat, s4.tick.left, s4.tick.dead⟩ := by rw [Vt.st41, hg4]; rfl
      rw [ew, hg4] at hκ
      dsimp only [Vt.o1, Vt.o2, vR]
      rw [tick_c]
      refine goGaE7 ?_
      have hp := fupd_vf s4.c A.toNat ⟨(s4.c A.toNat).nxt, ⟨true, []⟩, false⟩
      rw [show fupd (vf s4.c) A.toNat [FV.y (s4.c A.toNat).nxt.nil (s4.c A.toNat).nxt.l, FV.y true [], FV.b false] = vf (put41 s4.c A.toNat) from hp, hκ]
      dsimp only [leafK, res50, Vt.o1, Vt.o2, vR, go_sem, Nat.succ, Int.reduceToNat, Nat.reduceAdd, Nat.reduceMul, Nat.reduceSub, Int.reduceLT, Int.reduceLE, Int.reduceNeg, UInt64.reduceToNat, UInt32.reduceToNat, UInt8.reduceToNat]
      and_intros <;> first | rfl | trivial | omega
def eR50 : SpE := ⟨true, evV (l2D intD byD) (fun s x => (0 ≤ x.1 ∧ x.1 ≤ 8) ∧ s.left ≤ 9223372036854775807 ∧ x.2.l.length ≤ 1000000) (fun s x => .int (if s.rwrOK x.1 x.2 then 0 else 10)) (fun s x => s.rwrite x.1 x.2)⟩
theorem okR50 : SpE.ok Tryz.prog 50 eR50 := evV_ok (kl2 kInt kBy) (fun _ _ => rfl) (fun s x h => fR50 s x.1 x.2 h)
end Go.Abs
