/-
  Own work. Conditions: none. The document's vault is begun again: what it does, and that it does what the program's does. The document's vault: begun again. Plain laws: texts in order. A step on both vaults. Plain laws: two vault
-/
import Derived.Test.YtpemjeljhpkjhaaGreatGaF
set_option linter.unusedVariables false
set_option linter.unusedSimpArgs false
set_option linter.unnecessarySimpa false
namespace Go.Abs
theorem goGaX1 {P Q : Prop} (k : Q) (h : Hid Q → P := by (refine fun k__ => ?_); (repeat (first | ((first | refine RUN.sreg hsp hkp rfl (fun κ__ h__ => ?_) | refine RUN.reg hsp hkp rfl (fun κ__ h__ => ?_)); dsimp only [vf, By.eta, Ce.eta, Int.toNat_natCast, go_sem, Nat.succ, Int.reduceToNat, Nat.reduceAdd, Nat.reduceMul, Nat.reduceSub, Int.reduceLT, Int.reduceLE, Int.reduceNeg, UInt64.reduceToNat, UInt32.reduceToNat, UInt8.reduceToNat]; subst h__) | refine RUN.block rfl ?_ | refine RUN.skip rfl ?_ | refine RUN.ret rfl ?_ | (refine RUN.exit rfl ?_; dsimp only [xfind, xfB, Nat.beq]) | (refine RUN.seq rfl (fun κ__ h__ => ?_); subst h__) | (refine RUN.cond rfl (p := true) rfl (fun _ => ?_) (fun h__ => by cases h__)) | (refine RUN.cond rfl (p := false) rfl (fun h__ => by cases h__) (fun _ => ?_)) | refine ⟨by first | trivial | omega | (and_intros <;> first | trivial | rfl | omega) | rfl, ?_⟩)); exact k__.out) : P := h ⟨k⟩
theorem goGaX2 {P Q : Prop} (k : Q) (h : Hid Q → P := by (refine fun k__ => ?_); (repeat (first | ((first | refine RUN.sreg hsp hkp rfl (fun κ__ h__ => ?_) | refine RUN.reg hsp hkp rfl (fun κ__ h__ => ?_)); dsimp only [e10, e13, e12, eR18, e20, e22, eR37, e11, eR15, e14, eR38, e18, eR28, e19, evV, vtD, rwD, recD, intlD, allB, not, evL, consG, consO, valG, valO, nilG, nilO, noMore, vtG, vtO, id, rhoC, hsetL, happ, happO, nodupC, inC, appN, Vt.o1, Vt.o2, vR, toCe_vf, By.eta, Ce.eta, Vt.eta, Rec.eta, Num.eta, Rec.C, sfn, go_sem, Nat.succ, Int.reduceToNat, Nat.reduceAdd, Nat.reduceMul, Nat.reduceSub, Int.reduceLT, Int.reduceLE, Int.reduceNeg, UInt64.reduceToNat, UInt32.reduceToNat, UInt8.reduceToNat]; subst h__) | refine RUN.block rfl ?_ | refine RUN.skip rfl ?_ | refine RUN.ret rfl ?_ | (refine RUN.exit rfl ?_; dsimp only [xfind, xfB, Nat.beq]) | (refine RUN.seq rfl (fun κ__ h__ => ?_); subst h__) | (refine RUN.cond rfl (p := true) rfl (fun _ => ?_) (fun h__ => by cases h__)) | (refine RUN.cond rfl (p := false) rfl (fun h__ => by cases h__) (fun _ => ?_)) | refine ⟨by first | trivial | omega | (and_intros <;> first | trivial | rfl | omega) | rfl, ?_⟩)); exact k__.out) : P := h ⟨k⟩
open Go.Proofs
set_option maxRecDepth 100000

def rtornN (c : Ce) (t : List Int) (j : Nat) : Int := if (j : Int) < t.length then (if (c.nxt.l.length : Int) < (if t.getD j 0 < 0 then 0 else t.getD j 0) then (c.nxt.l.length : Int) else (if t.getD j 0 < 0 then 0 else t.getD j 0)) else 0
theorem rtornN_in (c : Ce) (t : List Int) (j : Nat) : 0 ≤ rtornN c t j ∧ rtornN c t j ≤ c.nxt.l.length := by
 unfold rtornN
 (repeat' split) <;> omega
def rtornL (c : Ce) (n : Int) : List UInt8 := c.nxt.l.take n.toNat ++ (if n < c.now.l.length then c.now.l.drop n.toNat else [])
def rtornC (c : Ce) (n : Int) : Ce := ⟨⟨false, rtornL c n⟩, ⟨true, []⟩, false⟩
def rtearTo (g : Nat → Ce) (t : List Int) : Nat → (Nat → Ce) × Nat
 | 0 => (g, 0)
 | k + 1 => if (g k).torn then (updC (rtearTo g t k).1 k (rtornC (g k) (rtornN (g k) t (rtearTo g t k).2)), (rtearTo g t k).2 + 1) else rtearTo g t k
theorem rtearTo_ge (g : Nat → Ce) (t : List Int) : ∀ k i, k ≤ i → (rtearTo g t k).1 i = g i
 | 0, _, _ => rfl
 | k + 1, i, h => by
   rw [rtearTo]
   split
   ·dsimp only
    rw [updC_ne _ _ (by omega)]
    exact rtearTo_ge g t k i (by omega)
   ·exact rtearTo_ge g t k i (by omega)
theorem rtearTo_le (g : Nat → Ce) (t : List Int) : ∀ k, (rtearTo g t k).2 ≤ k
 | 0 => Nat.le_refl _
 | k + 1 => by
   have := rtearTo_le g t k
   rw [rtearTo]
   split <;> (try dsimp only) <;> omega
def Vt.rtear (s : Vt) (t : List Int) : Vt := ⟨(rtearTo s.c t 18).1, -1, false⟩
def Vt.ragain (s : Vt) (t : List Int) : Vt := (s.rtear t).rera

theorem tornN_drop {c c' : Ce} (h : c'.nxt.l = c.nxt.l) (t : List Int) (j : Nat) : tornN c (t.drop j) = rtornN c' t j := by
 unfold rtornN
 rw [h]
 by_cases hj : j < t.length
 ·have e : t.drop j = t.getD j 0 :: t.drop (j + 1) := by rw [List.drop_eq_getElem_cons hj]; simp [List.getD_eq_getElem?_getD, List.getElem?_eq_getElem hj]
  rw [e, if_pos (by omega)]
  unfold tornN
  dsimp only
  (repeat' split) <;> omega
 ·rw [List.drop_of_length_le (by omega), if_neg (by omega)]
  rfl
theorem tornC_alike {c c' : Ce} (h1 : c'.now.l = c.now.l) (h2 : c'.nxt.l = c.nxt.l) {n : Int} (hn : 0 ≤ n) : (rtornC c' n).now.l = (tornC c n).now.l := by
 show rtornL c' n = catB [_, _]
 rw [catB_two]
 unfold rtornL
 dsimp only
 rw [h1, h2]
 congr 1
 by_cases h : n < c.now.l.length
 ·rw [if_pos h, if_neg (by omega)]
 ·rw [if_neg h]
  symm
  apply List.drop_of_length_le
  split <;> omega
theorem tear_eqv {s s' : Vt} (h : Eqv s s') (t : List Int) (l : Int) (d : Bool) : ∀ k, (tearTo s.c t k).2 = t.drop (rtearTo s'.c t k).2 ∧ Eqv ⟨(tearTo s.c t k).1, l, d⟩ ⟨(rtearTo s'.c t k).1, l, d⟩
 | 0 => ⟨rfl, ⟨h.now, h.nxt, h.torn, rfl, rfl⟩⟩
 | k + 1 => by
   obtain ⟨h1, h2⟩ := tear_eqv h t l d k
   have ht := h.torn k
   rw [tearTo, rtearTo]
   by_cases hk : (s.c k).torn = true
   ·rw [if_pos hk, if_pos (ht.trans hk)]
    dsimp only
    rw [h1]
    refine ⟨by rw [List.drop_drop], ?_⟩
    have e1 : tornN (s.c k) (t.drop (rtearTo s'.c t k).2) = rtornN (s'.c k) t (rtearTo s'.c t k).2 := tornN_drop (h.nxt k) t _
    rw [e1]
    exact h2.upd k (tornC_alike (h.now k) (h.nxt k) (rtornN_in _ _ _).1) rfl rfl
   ·rw [if_neg hk, if_neg (by rw [ht]; exact hk)]
    exact ⟨h1, h2⟩
theorem Era.at_ {s : Vt} {i : Int} (h : Era s i) : 0 ≤ (cntTo s.c ((8 : Nat) : Int) 2).1 := by
 have h1 := h.cnt
 have h2 : (cntTo s.c ((8 : Nat) : Int) 2).2 = ⟨i, ⟨false, eightB i⟩⟩ := h1
 rw [cnt_two _ _ (Nat.le_refl 8)] at h2 ⊢
 rcases cnt2_idx (readOK ((2 * 8 : Nat) : Int) (s.c (2 * 8)).now) (readOK ((2 * 8 + 1 : Nat) : Int) (s.c (2 * 8 + 1)).now) (readC (s.c (2 * 8)).now) (readC (s.c (2 * 8 + 1)).now) with ⟨_, k2, _⟩ | ⟨k1, _, _⟩ | ⟨k1, _, _⟩
 ·rw [k2] at h2
  have := congrArg (fun c => c.b.l.length) h2
  dsimp only at this
  rw [eightB_len] at this
  exact absurd this (by decide)
 ·rw [k1]; exact Int.le_refl _
 ·rw [k1]; decide
theorem rboot_eqv {s s' : Vt} (h : Eqv s s') {N : Nat} (hl : lowV s N) (hN : N < 127) {i : Int} (he : Era s i) (hi : 0 ≤ i ∧ i < 9223372036854775808) : s'.rboot = i ∧ s.boot = i := by
 refine ⟨?_, he.boot hi⟩
 have ha : alikeV s' := (h.low hl).alike (by omega)
 obtain ⟨c1, c2, c3⟩ := h.cnt (Nat.le_refl 8)
 have e8 : (cntTo s.c ((8 : Nat) : Int) 2).2 = ⟨i, ⟨false, eightB i⟩⟩ := he.cnt
 rw [e8] at c3
 have hr := rc_cnt (g := s'.c) (n := ((8 : Nat) : Int)) (by omega) (ha 8 (Nat.le_refl 8)) 2 (Nat.le_refl _)
 have hat := he.at_
 rw [← c1] at hat
 rw [if_neg (by omega)] at hr
 have e1 : (rcTo s'.c 8 2) = _ := hr
 have e2 : (s'.rcnt 8).b.l = eightB i := by unfold Vt.rcnt; rw [e1]; exact c3
 unfold Vt.rboot
 rw [e1, if_neg (by dsimp only; omega), e2, eightB_len, if_pos rfl, num8_eight hi.1]
 have := numTo_num8 hi []
 rwa [List.append_nil] at this
theorem rera_eqv {s s' : Vt} (h : Eqv s s') {N : Nat} (hl : lowV s N) (hN : N < 127) {i : Int} (he : Era s i) (hi : 0 ≤ i ∧ i < 9223372036854775807) : Eqv (s.write 8 ⟨false, eightB (w64 (s.boot + 1))⟩) s'.rera := by
 obtain ⟨b1, b2⟩ := rboot_eqv h hl hN he ⟨hi.1, by omega⟩
 have hl' := h.low hl
 unfold Vt.rera
 rw [b1, b2, w64_in (by omega), ← num8_eight (by omega)]
 rw [(rwrite_eq (s := s') (n := 8) ⟨false, eightB (i + 1)⟩ (by omega) (hl'.alike (by omega) 8 (Nat.le_refl 8)) (hl'.rises hN 8 (Nat.le_refl 8))).1]
 exact (h.write (Nat.le_refl 8) _).1
theorem again_eqv {s s' : Vt} (h : Eqv s s') {N : Nat} (hl : lowV s N) (hN : N < 127) {i : Int} (he : Era s i) (hi : 0 ≤ i ∧ i < 9223372036854775807) (t : List Int) : Eqv (s.again t) (s'.ragain t) :=
 rera_eqv (s := s.tear t) (s' := s'.rtear t) (tear_eqv h t (-1) false 18).2 (fun k => tear_low hl 18 k) hN (he.tear t) hi
end Go.Abs

namespace Go.Abs
open Go.Proofs
set_option maxRecDepth 100000

def LR38 (s : Vt) (t : IntL) : LI where
 X := Nat
 x0 := 0
 pre k := k ≤ 18
 inv k := ([(0, .ptr 0 0 0), (1, t.A), (4, .int (rtearTo s.c t.l k).2), (5, .int k)], [s.o1 1, Vt.o2 ⟨(rtearTo s.c t.l k).1, s.left, s.dead⟩])
 mu k := 18 - k
 ren := true
theorem fupd_rtorn (G : Nat → Ce) (k : Nat) (n : Int) (L : List UInt8) (h : L = rtornL (G k) n) : fupd (vf G) k [FV.y false L, FV.y true [], FV.b false] = vf (updC G k (rtornC (G k) n)) := by
 subst h
 exact fupd_vf G k ⟨⟨false, rtornL (G k) n⟩, ⟨true, []⟩, false⟩
attribute [local irreducible] readR Vt.rboot Vt.rwrite Vt.rwrOK Vt.rera
theorem fR38 (s : Vt) (t : IntL) (hs : s.low) : ACalls Tryz.prog 38 [.ptr 0 0 0, t.A] [s.o1 1, s.o2] (fun a h => a = .tup [] ∧ h = [(s.ragain t.l).o1 1, (s.ragain t.l).o2]) := by
 refine o38.runS [(35, eR35)] keep38 2 (fun _ _ _ => LR38 s t) (own := true) (kn := 2) (.cons okR35 o35.enter .nil) (Nat.le_of_ble_eq_true rfl) rfl (Nat.le_refl _) (fun Γ hsp hkp hk0 hinv κ hκ => ?_)
 dsimp only [keep38] at hkp
 dsimp only [Vt.o1, Vt.o2, vR, IntL.A]
 (repeat (first | ((first | refine RUN.sreg hsp hkp rfl (fun κ__ h__ => ?_) | refine RUN.reg hsp hkp rfl (fun κ__ h__ => ?_)); dsimp only [go_sem, Nat.succ, Int.reduceToNat, Nat.reduceAdd, Nat.reduceMul, Nat.reduceSub, Int.reduceLT, Int.reduceLE, Int.reduceNeg, UInt64.reduceToNat, UInt32.reduceToNat, UInt8.reduceToNat]; subst h__) | refine RUN.block rfl ?_ | refine RUN.skip rfl ?_ | refine RUN.ret rfl ?_ | (refine RUN.exit rfl ?_; dsimp only [xfind, xfB, Nat.beq]) | (refine RUN.seq rfl (fun κ__ h__ => ?_); subst h__) | (refine RUN.cond rfl (p := true) rfl (fun _ => ?_) (fun h__ => by cases h__)) | (refine RUN.cond rfl (p := false) rfl (fun h__ => by cases h__) (fun _ => ?_)) | refine ⟨by first | trivial | omega | (and_intros <;> first | trivial | rfl | omega) | rfl, ?_⟩))
 refine RUN.loop hk0 hinv rfl rfl (L := LR38 s t) rfl rfl rfl ?_ ?_ (fun (k : Nat) (hk : k ≤ 18) κ1 h1 => ?_)
 ·dsimp only [LR38, fits, Vt.o1, Vt.o2, vR, IntL.A, rtearTo]
  refine ⟨[some 0, some 1], rfl, ?_, by first | rfl | trivial, ?_⟩
  ·exact rn
  ·exact rn
 ·exact Nat.zero_le _
 have hG := rtearTo_ge s.c t.l k k (Nat.le_refl _)
 have hS : rtearTo s.c t.l (k + 1) = if (s.c k).torn then (updC (rtearTo s.c t.l k).1 k (rtornC (s.c k) (rtornN (s.c k) t.l (rtearTo s.c t.l k).2)), (rtearTo s.c t.l k).2 + 1) else rtearTo s.c t.l k := rfl
 have hJ := rtearTo_le s.c t.l k
 have wk : k < 18 → w64 ((k : Int) + 1) = ((k + 1 : Nat) : Int) := fun h => by rw [w64_in (by omega)]; omega
 dsimp only [LR38, Vt.o1, Vt.o2, vR, IntL.A]
 obtain ⟨G, j, hp⟩ : ∃ G j, rtearTo s.c t.l k = (G, j) := ⟨_, _, rfl⟩
 rw [hp] at hG hS hJ ⊢
 dsimp only at hG hS hJ ⊢
 rw [← hG] at hS
 refine goGaX1 ?_
 refine RUN.cond rfl rfl (fun h => ?_) (fun h => ?_)
 ·have h : k < 18 := by have := of_decide_eq_true h; omega
  refine goGaX1 ?_
  refine RUN.cond rfl rfl (fun h2 => ?_) (fun h2 => ?_)
  ·have h2 := not_t h2
   refine goGaX1 ?_
   rw [wk h]
   have e : rtearTo s.c t.l (k + 1) = (G, j) := by rw [hS, if_neg (by rw [h2]; exact Bool.false_ne_true)]
   subst h1
   dsimp only [loopK, fits, LR38, Vt.o1, Vt.o2, vR, IntL.A]
   refine ⟨k + 1, by omega, by omega, [some 0, some 1], rfl, ?_, by first | rfl | trivial, ?_⟩ <;> rw [e]
   ·exact rn
   ·exact rn
  ·have h2 := not_f h2
   have hl := hs k
   rw [← hG] at hl
   have hn := rtornN_in (G k) t.l j
   have hT : rtearTo s.c t.l (k + 1) = (updC G k (rtornC (G k) (rtornN (G k) t.l j)), j + 1) := by rw [hS, if_pos h2]
   have wj : w64 ((j : Int) + 1) = ((j + 1 : Nat) : Int) := by rw [w64_in (by omega)]; omega
   obtain ⟨n, hN⟩ : ∃ n, rtornN (G k) t.l j = n := ⟨_, rfl⟩
   rw [hN] at hT hn
   unfold rtornN at hN
   refine goGaX1 ?_
   generalize hK : RUN Γ _ (RUN Γ _ κ1 _ κ) _ κ = K
   refine RUN.cond rfl rfl (fun h3 => ?_) (fun h3 => ?_)
   ·have h3 := of_decide_eq_true h3
    rw [if_pos (by omega)] at hN
    refine goGaX1 ?_
    refine ⟨by simp, by omega, h, ?_⟩
    simp only [List.getD_cons_zero]
    rw [hN]
    subst hK
    have hlen : (List.take n.toNat (G k).nxt.l).length = n.toNat := by rw [List.length_take]; omega
    have ht : List.take (n.toNat * n.toNat) (List.take n.toNat (G k).nxt.l) = List.take n.toNat (G k).nxt.l := by
     have := take_len (List.take n.toNat (G k).nxt.l)
     rwa [hlen] at this
    refine goGaX1 ?_
    refine RUN.cond rfl rfl (fun h5 => ?_) (fun h5 => ?_)
    ·have h5 := of_decide_eq_true h5
     refine goGaX1 ?_
     rw [hlen, ht, hlen]
     refine ⟨⟨rfl, by omega⟩, ?_⟩
     refine goGaX1 ?_
     have hl2 : (List.take n.toNat (G k).nxt.l ++ List.drop n.toNat (G k).now.l).length = n.toNat + ((G k).now.l.length - n.toNat) := by rw [List.length_append, hlen, List.length_drop]
     refine ⟨⟨by rw [hl2]; omega, h⟩, ?_⟩
     rw [fupd_rtorn G k n _ (by rw [List.drop_zero, List.take_of_length_le (by rw [hl2]; exact Nat.le_refl _)]; unfold rtornL; rw [if_pos h5])]
     refine goGaX1 ?_
     rw [wk h, wj]
     subst h1
     dsimp only [loopK, fits, LR38, Vt.o1, Vt.o2, vR, IntL.A]
     refine ⟨k + 1, by omega, by omega, [some 0, some 1], rfl, ?_, by first | rfl | trivial, ?_⟩ <;> rw [hT]
     ·exact rn
     ·exact rn
    ·have h5 := of_decide_eq_false h5
     refine goGaX1 ?_
     try refine ⟨⟨by rw [hlen]; omega, h⟩, ?_⟩
     rw [fupd_rtorn G k n _ (by rw [List.drop_zero, List.take_of_length_le (by rw [hlen]; exact Nat.le_refl _)]; unfold rtornL; rw [if_neg h5, List.append_nil])]
     refine goGaX1 ?_
     rw [wk h, wj]
     subst h1
     dsimp only [loopK, fits, LR38, Vt.o1, Vt.o2, vR, IntL.A]
     refine ⟨k + 1, by omega, by omega, [some 0, some 1], rfl, ?_, by first | rfl | trivial, ?_⟩ <;> rw [hT]
     ·exact rn
     ·exact rn
   ·have h3 := of_decide_eq_false h3
    rw [if_neg (by omega)] at hN
    subst hN
    refine goGaX1 ?_
    subst hK
    refine goGaX1 ?_
    refine RUN.cond rfl rfl (fun h5 => ?_) (fun h5 => ?_)
    ·have h5 := of_decide_eq_true h5
     refine goGaX1 ?_
     simp only [Nat.zero_mul, List.take_zero, List.nil_append, List.drop_zero, Nat.zero_add, Nat.sub_zero, List.take_length]
     try refine ⟨⟨Nat.le_refl _, h⟩, ?_⟩
     rw [fupd_rtorn G k 0 _ (by unfold rtornL; rw [if_pos h5]; rfl)]
     refine goGaX1 ?_
     rw [wk h, wj]
     subst h1
     dsimp only [loopK, fits, LR38, Vt.o1, Vt.o2, vR, IntL.A]
     refine ⟨k + 1, by omega, by omega, [some 0, some 1], rfl, ?_, by first | rfl | trivial, ?_⟩ <;> rw [hT]
     ·exact rn
     ·exact rn
    ·have h5 := of_decide_eq_false h5
     refine goGaX1 ?_
     simp only [Nat.zero_mul, List.take_zero, List.nil_append, List.drop_zero, Nat.zero_add, Nat.sub_zero, List.take_length]
     try refine ⟨⟨Nat.le_refl _, h⟩, ?_⟩
     rw [fupd_rtorn G k 0 _ (by unfold rtornL; rw [if_neg h5]; rfl)]
     refine goGaX1 ?_
     rw [wk h, wj]
     subst h1
     dsimp only [loopK, fits, LR38, Vt.o1, Vt.o2, vR, IntL.A]
     refine ⟨k + 1, by omega, by omega, [some 0, some 1], rfl, ?_, by first | rfl | trivial, ?_⟩ <;> rw [hT]
     ·exact rn
     ·exact rn
 ·have h : k = 18 := by have := of_decide_eq_false h; omega
  subst h
  have eT : s.rtear t.l = ⟨G, -1, false⟩ := by rw [Vt.rtear, hp]
  have eA : s.ragain t.l = (s.rtear t.l).rera := rfl
  rw [eT] at eA
  rw [eA] at hκ
  (repeat (first | ((first | refine RUN.sreg hsp hkp rfl (fun κ__ h__ => ?_) | refine RUN.reg hsp hkp rfl (fun κ__ h__ => ?_)); dsimp only [eR35, evV, vtD, rwD, allB, not, Vt.o1, Vt.o2, vR, toCe_vf, By.eta, Ce.eta, Vt.eta, go_sem, Nat.succ, Int.reduceToNat, Nat.reduceAdd, Nat.reduceMul, Nat.reduceSub, Int.reduceLT, Int.reduceLE, Int.reduceNeg, UInt64.reduceToNat, UInt32.reduceToNat, UInt8.reduceToNat]; subst h__) | refine RUN.block rfl ?_ | refine RUN.skip rfl ?_ | refine RUN.ret rfl ?_ | (refine RUN.exit rfl ?_; dsimp only [xfind, xfB, Nat.beq]) | (refine RUN.seq rfl (fun κ__ h__ => ?_); subst h__) | (refine RUN.cond rfl (p := true) rfl (fun _ => ?_) (fun h__ => by cases h__)) | (refine RUN.cond rfl (p := false) rfl (fun h__ => by cases h__) (fun _ => ?_)) | refine ⟨by first | trivial | omega | (and_intros <;> first | trivial | rfl | omega) | rfl, ?_⟩))
  subst hκ
  dsimp only [leafK, res38, Vt.o1, Vt.o2, vR, go_sem, Nat.succ, Int.reduceToNat, Nat.reduceAdd, Nat.reduceMul, Nat.reduceSub, Int.reduceLT, Int.reduceLE, Int.reduceNeg, UInt64.reduceToNat, UInt32.reduceToNat, UInt8.reduceToNat]
  and_intros <;> first | rfl | trivial | omega
def eR38 : SpE := ⟨true, evL (consG vtG (consG (valG intlD) nilG)) (consO 2 vtO (consO 0 valO nilO)) (fun x => x.1.low) (fun _ _ => .tup []) (fun x => (x.1.ragain x.2.1.l, x.2)) noMore⟩
theorem okR38 : SpE.ok Tryz.prog 38 eR38 := evL_ok (.cons vVt (.cons (.val kIntL) .nil)) (fun _ _ => rfl) (fun _ _ => rfl) (fun ⟨s, t, _⟩ h => fR38 s t h)
end Go.Abs

namespace Go.Abs
open Go.Proofs
set_option maxRecDepth 100000

theorem less_irrefl : ∀ a : TX, Op.bytesLess a a = false
 | [] => rfl
 | x :: a => by
   have := less_irrefl a
   simp [Op.bytesLess, this]
theorem less_asymm : ∀ {a b : TX}, Op.bytesLess a b = true → Op.bytesLess b a = false
 | _, [], h => by simp [Op.bytesLess] at h
 | [], _ :: _, _ => by simp [Op.bytesLess]
 | x :: a, y :: b, h => by
   simp only [Op.bytesLess, Bool.or_eq_true, decide_eq_true_eq, Bool.and_eq_true, beq_iff_eq] at h
   simp only [Op.bytesLess, Bool.or_eq_false_iff, decide_eq_false_iff_not, Bool.and_eq_false_iff]
   rcases h with h | ⟨rfl, h⟩
   ·refine ⟨fun h2 => ?_, .inl ?_⟩
    ·have h1 := UInt8.lt_iff_toNat_lt.1 h; have h3 := UInt8.lt_iff_toNat_lt.1 h2; omega
    ·rw [beq_eq_false_iff_ne]; intro e; subst e; have h1 := UInt8.lt_iff_toNat_lt.1 h; omega
   ·exact ⟨fun h2 => by have h3 := UInt8.lt_iff_toNat_lt.1 h2; omega, .inr (less_asymm h)⟩
theorem less_total : ∀ {a b : TX}, Op.bytesLess a b = false → Op.bytesLess b a = false → a = b
 | [], [], _, _ => rfl
 | [], _ :: _, h, _ => by simp [Op.bytesLess] at h
 | _ :: _, [], _, h => by simp [Op.bytesLess] at h
 | x :: a, y :: b, h, k => by
   simp only [Op.bytesLess, Bool.or_eq_false_iff, decide_eq_false_iff_not, Bool.and_eq_false_iff] at h k
   have e : x = y := by
    have h1 := h.1; have k1 := k.1
    rw [UInt8.lt_iff_toNat_lt] at h1 k1
    exact UInt8.toNat_inj.1 (by omega)
   subst e
   obtain ⟨_, h2⟩ := h
   obtain ⟨_, k2⟩ := k
   simp only [beq_self_eq_true, Bool.true_eq_false, false_or] at h2 k2
   rw [less_total h2 k2]
theorem less_trans : ∀ {a b c : TX}, Op.bytesLess a b = true → Op.bytesLess b c = true → Op.bytesLess a c = true
 | _, [], _, h, _ => by simp [Op.bytesLess] at h
 | _, _ :: _, [], _, k => by simp [Op.bytesLess] at k
 | [], _ :: _, _ :: _, _, _ => by simp [Op.bytesLess]
 | x :: a, y :: b, z :: c, h, k => by
   simp only [Op.bytesLess, Bool.or_eq_true, decide_eq_true_eq, Bool.and_eq_true, beq_iff_eq] at h k ⊢
   rcases h with h | ⟨rfl, h⟩
   ·rcases k with k | ⟨rfl, k⟩
    ·left
     rw [UInt8.lt_iff_toNat_lt] at h k ⊢
     omega
    ·exact .inl h
   ·rcases k with k | ⟨rfl, k⟩
    ·exact .inl k
    ·exact .inr ⟨rfl, less_trans h k⟩
def le (a b : TX) : Prop := Op.bytesLess b a = false
theorem le_refl (a : TX) : le a a := less_irrefl a
theorem le_of_less {a b : TX} (h : Op.bytesLess a b = true) : le a b := less_asymm h
theorem le_anti {a b : TX} (h : le a b) (k : le b a) : a = b := less_total k h
theorem le_trans' {a b c : TX} (h : le a b) (k : le b c) : le a c := by
 unfold le at *
 cases hc : Op.bytesLess c a with
 | false => rfl
 | true =>
   cases hb : Op.bytesLess a b with
   | true => rw [less_trans hc hb] at k; cases k
   | false =>
     have : a = b := less_total hb h
     subst this
     rw [hc] at k; cases k
theorem le_total' (a b : TX) : le a b ∨ le b a := by
 cases h : Op.bytesLess b a with
 | false => exact .inl h
 | true => exact .inr (less_asymm h)

def toL (g : Nat → TX) : Nat → List TX
 | 0 => []
 | n + 1 => toL g n ++ [g n]
theorem toL_len (g : Nat → TX) : ∀ n, (toL g n).length = n
 | 0 => rfl
 | n + 1 => by rw [toL, List.length_append, toL_len g n]; rfl
theorem toL_congr {g h : Nat → TX} : ∀ n, (∀ i, i < n → g i = h i) → toL g n = toL h n
 | 0, _ => rfl
 | n + 1, e => by rw [toL, toL, toL_congr n (fun i hi => e i (by omega)), e n (by omega)]
theorem toL_get (g : Nat → TX) : ∀ n i, i < n → (toL g n)[i]? = some (g i)
 | 0, _, h => absurd h (by omega)
 | n + 1, i, h => by
   rw [toL]
   rcases Nat.lt_or_ge i n with hi | hi
   ·rw [List.getElem?_append_left (by rw [toL_len]; exact hi)]; exact toL_get g n i hi
   ·have : i = n := by omega
    subst this
    rw [List.getElem?_append_right (by rw [toL_len]; omega), toL_len, Nat.sub_self]; rfl
theorem toL_lst (L : List TX) : toL (lstF L) L.length = L := by
 apply List.ext_getElem?
 intro i
 rcases Nat.lt_or_ge i L.length with h | h
 ·rw [toL_get _ _ _ h, List.getElem?_eq_getElem h]
  simp [lstF, List.getD_eq_getElem?_getD, List.getElem?_eq_getElem h]
 ·rw [List.getElem?_eq_none_iff.2 (by rw [toL_len]; exact h), List.getElem?_eq_none_iff.2 h]
theorem swp_perm (g : Nat → TX) (j : Nat) : ∀ n, 0 < j → j < n → (toL (swp g j) n).Perm (toL g n)
 | 0, _, h => absurd h (by omega)
 | n + 1, h0, h => by
   rcases Nat.lt_or_ge j n with hj | hj
   ·rw [toL, toL]
    have e : swp g j n = g n := by unfold swp; rw [if_neg (by omega), if_neg (by omega)]
    rw [e]
    exact (swp_perm g j n h0 hj).append_right _
   ·obtain rfl : j = n := by omega
    obtain ⟨m, rfl⟩ : ∃ m, j = m + 1 := ⟨j - 1, by omega⟩
    have e1 : swp g (m + 1) (m + 1) = g m := by unfold swp; rw [if_pos rfl]; rfl
    have e2 : swp g (m + 1) m = g (m + 1) := by unfold swp; rw [if_neg (by omega), if_pos (by omega)]
    have e3 : toL (swp g (m + 1)) m = toL g m := toL_congr m fun i hi => by unfold swp; rw [if_neg (by omega), if_neg (by omega)]
    simp only [toL, e1, e2, e3, List.append_assoc, List.cons_append, List.nil_append]
    exact (List.Perm.swap _ _ _).append_left _
theorem insF_perm (n : Nat) : ∀ (j : Nat) (g : Nat → TX), j < n → (toL (insF g j) n).Perm (toL g n)
 | 0, _, _ => List.Perm.refl _
 | j + 1, g, h => by
   rw [insF]
   split
   ·exact (insF_perm n j _ (by omega)).trans (swp_perm g (j + 1) n (by omega) h)
   ·exact List.Perm.refl _
theorem outF_perm (n : Nat) (g : Nat → TX) : ∀ k, k < n → (toL (outF g k) n).Perm (toL g n)
 | 0, _ => List.Perm.refl _
 | k + 1, h => (insF_perm n (k + 1) _ h).trans (outF_perm n g k (by omega))
theorem srt_perm (g : Nat → TX) (n : Nat) : (toL (srt g n) n).Perm (toL g n) := by
 cases n with
 | zero => exact List.Perm.refl _
 | succ n => exact outF_perm (n + 1) g n (by omega)
theorem insF_sorted (K : Nat) : ∀ (j : Nat) (q : Nat → TX), j ≤ K → (∀ i, i + 1 ≤ K → i + 1 ≠ j → le (q i) (q (i + 1))) → (0 < j → j < K → le (q (j - 1)) (q (j + 1))) → ∀ i, i + 1 ≤ K → le (insF q j i) (insF q j (i + 1))
 | 0, q, _, h, _, i, hi => h i hi (by omega)
 | j + 1, q, hj, h, h2, i, hi => by
   rw [insF]
   split
   ·rename_i hl
    have hl := le_of_less hl
    have s0 : swp q (j + 1) (j + 1) = q j := by unfold swp; rw [if_pos rfl]; rfl
    have s1 : swp q (j + 1) j = q (j + 1) := by unfold swp; rw [if_neg (by omega), if_pos (by omega)]
    have s2 : ∀ x, x ≠ j + 1 → x ≠ j → swp q (j + 1) x = q x := fun x h1 h2 => by unfold swp; rw [if_neg h1, if_neg (by omega)]
    refine insF_sorted K j _ (by omega) (fun x hx hne => ?_) (fun h0 hlt => ?_) i hi
    ·by_cases c1 : x = j + 1
     ·subst c1
      rw [s0, s2 (j + 1 + 1) (by omega) (by omega)]
      exact h2 (by omega) (by omega)
     ·by_cases c2 : x = j
      ·subst c2
       rw [s1, s0]; exact hl
      ·rw [s2 x c1 c2, s2 (x + 1) (by omega) (by omega)]
       exact h x hx (by omega)
    ·rw [s2 (j - 1) (by omega) (by omega), s0]
     have := h (j - 1) (by omega) (by omega)
     rwa [show j - 1 + 1 = j by omega] at this
   ·rename_i hl
    by_cases c : i = j
    ·subst c
     unfold le
     cases hb : Op.bytesLess (q (i + 1)) (q i) with
     | false => rfl
     | true => exact absurd hb hl
    ·exact h i hi (by omega)
theorem outF_sorted (g : Nat → TX) : ∀ k i, i + 1 ≤ k → le (outF g k i) (outF g k (i + 1))
 | 0, _, h => absurd h (by omega)
 | k + 1, i, h => insF_sorted (k + 1) (k + 1) (outF g k) (Nat.le_refl _) (fun i hi hne => outF_sorted g k i (by omega)) (fun _ h => absurd h (by omega)) i h
theorem srt_sorted (g : Nat → TX) (n i : Nat) (h : i + 1 < n) : le (srt g n i) (srt g n (i + 1)) := outF_sorted g (n - 1) i (by omega)
theorem le_chain {g : Nat → TX} {n : Nat} (h : ∀ i, i + 1 < n → le (g i) (g (i + 1))) : ∀ j i, i ≤ j → j < n → le (g i) (g j)
 | 0, i, hi, _ => by
   obtain rfl : i = 0 := by omega
   exact le_refl _
 | j + 1, i, hi, hj => by
   by_cases c : i = j + 1
   ·subst c; exact le_refl _
   ·exact le_trans' (le_chain h j i (by omega) (by omega)) (h j hj)
theorem toL_pairwise {g : Nat → TX} {n : Nat} (h : ∀ i, i + 1 < n → le (g i) (g (i + 1))) : ∀ m, m ≤ n → (toL g m).Pairwise le
 | 0, _ => List.Pairwise.nil
 | m + 1, hm => by
   rw [toL, List.pairwise_append]
   refine ⟨toL_pairwise h m (by omega), List.pairwise_singleton _ _, fun a ha b hb => ?_⟩
   simp at hb; subst hb
   obtain ⟨i, hi, rfl⟩ := List.getElem_of_mem ha
   rw [toL_len] at hi
   have e : (toL g m)[i] = g i := by have := toL_get g m i hi; rw [List.getElem?_eq_getElem (by rw [toL_len]; exact hi)] at this; exact Option.some.inj this
   rw [e]
   exact le_chain h m i (by omega) (by omega)
theorem names_eq {s : Vt} {H : List TX} (hp : (s.nmTo 8).Perm H) (hs : H.Pairwise le) : s.names.1 = H.length ∧ ∀ i, i < H.length → s.names.2 i = H.getD i [] := by
 have hl : (s.nmTo 8).length = H.length := hp.length_eq
 have e : toL (srt (lstF (s.nmTo 8)) (s.nmTo 8).length) (s.nmTo 8).length = H := by
  have p := srt_perm (lstF (s.nmTo 8)) (s.nmTo 8).length
  rw [toL_lst] at p
  exact List.Perm.eq_of_pairwise (fun a b _ _ h1 h2 => le_anti h1 h2) (toL_pairwise (srt_sorted _ _) _ (Nat.le_refl _)) hs (p.trans hp)
 refine ⟨hl, fun i hi => ?_⟩
 have := toL_get (srt (lstF (s.nmTo 8)) (s.nmTo 8).length) (s.nmTo 8).length i (by omega)
 rw [e] at this
 show srt (lstF (s.nmTo 8)) (s.nmTo 8).length i = _
 rw [List.getD_eq_getElem?_getD, this]; rfl
end Go.Abs

namespace Go.Abs
open Go.Proofs
set_option maxRecDepth 100000

def recS (k : Int) (b : By) : Rec := if k.tmod 41 == 0 then { recV k b with toks := 300 } else recV k b
def nmS (k : Int) : TX := lstF nmL (k.tmod 10).toNat
def cutS' (k : Int) (t : List Int) : List Int := t.take (within1 (k.tdiv 2) (t.length + 1)).toNat
def sameG (a b : Option Rec) : Bool := if a.isSome == b.isSome then (orZR a).same (orZR b) else false
def stepR (s s' : Vt) (m k : Int) (b : By) : Bool :=
 if m < 6 then (s.put (recS k b)).1 == (s'.rput (recS k b)).1 else if m < 8 then (s.gone (nmS k)).1 == (s'.rgone (nmS k)).1 else if m < 11 then true else sameG (s.get (nmS k)) (s'.rget (nmS k))
def stepV (s : Vt) (m k : Int) (b : By) (t : List Int) : Vt :=
 if m < 6 then (s.put (recS k b)).2 else if m < 8 then (s.gone (nmS k)).2 else if m < 9 then s.fail (k.tmod 6 - 1) else if m < 11 then (if k.tmod 2 == 0 then s.again (cutS' k t) else s) else s
def stepX (s : Vt) (m k : Int) (b : By) (t : List Int) : Vt :=
 if m < 6 then (s.rput (recS k b)).2 else if m < 8 then (s.rgone (nmS k)).2 else if m < 9 then s.fail (k.tmod 6 - 1) else if m < 11 then (if k.tmod 2 == 0 then s.ragain (cutS' k t) else s) else s
structure StepIn (s s' : Vt) (n : Int) (b : By) (t : List Int) : Prop where
 n0 : 0 ≤ n ∧ n < 1073741824
 b0 : b.l.length ≤ 60
 t0 : t.length ≤ 10
 l1 : s.left ≤ 1000
 l2 : s'.left ≤ 1000
 f1 : s.low
 f2 : s'.low
theorem name_len {r : Rec} (h : r.ok = true) : r.name.length ≤ 16 := by
 obtain ⟨_, _, h3, _⟩ := Rec.oks h
 unfold nameOK at h3
 simp only [Bool.and_eq_true, decide_eq_true_eq] at h3
 omega
theorem recS_name (k : Int) (b : By) : (recS k b).name = (recV k b).name := by unfold recS; split <;> rfl
theorem recS_len (k : Int) (b : By) : (recS k b).outW.l.length ≤ 200 := by
 cases h : (recS k b).ok with
 | true => exact out_len h
 | false => unfold Rec.outW; rw [h]; exact Nat.zero_le _
attribute [local irreducible] readR Vt.rfind Vt.rfree Vt.rwrite Vt.rwrOK Vt.rera Vt.put Vt.gone Vt.rput Vt.rgone Vt.get Vt.rget Vt.again Vt.ragain
set_option maxHeartbeats 4000000 in
theorem fR11 (s s' : Vt) (n : Int) (b : By) (t : IntL) (h0 : StepIn s s' n b t.l) : ACalls Tryz.prog 11 [.ptr 0 0 0, .ptr 2 0 0, .int n, b.A, t.A] [s.o1 1, s.o2, s'.o1 3, s'.o2]
  (fun a h => a = .bool (stepR s s' (n.tmod 12) (n.tdiv 12) b) ∧ h = [(stepV s (n.tmod 12) (n.tdiv 12) b t.l).o1 1, (stepV s (n.tmod 12) (n.tdiv 12) b t.l).o2, (stepX s' (n.tmod 12) (n.tdiv 12) b t.l).o1 3, (stepX s' (n.tmod 12) (n.tdiv 12) b t.l).o2]) := by
 refine o11.runS [(12, e10), (16, e13), (17, e12), (18, eR18), (36, e20), (22, e22), (37, eR37), (14, e11), (15, eR15), (25, e14), (38, eR38), (19, e18), (28, eR28), (26, e19)] keep11 4 (fun _ _ _ => L55) (own := true) (kn := 4)
  (.cons ok10 o12.enter (.cons ok13 o16.enter (.cons ok12 o17.enter (.cons okR18 o18.enter (.cons ok20 o36.enter (.cons ok22 o22.enter (.cons okR37 o37.enter (.cons ok11 o14.enter (.cons okR15 o15.enter (.cons ok14 o25.enter (.cons okR38 o38.enter (.cons ok18 o19.enter (.cons okR28 o28.enter (.cons ok19 o26.enter .nil)))))))))))))) (Nat.le_of_ble_eq_true rfl) rfl (Nat.le_refl _) (fun Γ hsp hkp hk0 hinv κ hκ => ?_)
 dsimp only [keep11] at hkp
 obtain ⟨n0, b0, t0, l1, l2, f1, f2⟩ := h0
 have hK : 0 ≤ n.tdiv 12 ∧ n.tdiv 12 < 1073741824 := by rw [Int.tdiv_eq_ediv_of_nonneg n0.1]; omega
 have hm : 0 ≤ n.tmod 12 ∧ n.tmod 12 < 12 := ⟨Int.tmod_nonneg _ n0.1, Int.tmod_lt_of_pos _ (by decide)⟩
 have wK : w64 (n.tdiv 12) = n.tdiv 12 := w64_in (by omega)
 dsimp only [Vt.o1, Vt.o2, vR, By.A, IntL.A]
 refine goGaX2 ?_
 rw [wK]
 generalize n.tdiv 12 = k at hK hκ ⊢
 generalize n.tmod 12 = m at hm hκ ⊢
 have hc : m = 0 ∨ m = 1 ∨ m = 2 ∨ m = 3 ∨ m = 4 ∨ m = 5 ∨ m = 6 ∨ m = 7 ∨ m = 8 ∨ m = 9 ∨ m = 10 ∨ m = 11 := by omega
 clear hm
 have hS1 : (recS k b).outW.l.length ≤ 1000000 := Nat.le_trans (recS_len k b) (by decide)
 have hS2 : (recS k b).name.length ≤ 1099511627776 := by rw [recS_name]; exact Nat.le_trans (name_len (recV_good k b).ok) (by decide)
 have h10 : 0 ≤ k.tmod 10 ∧ k.tmod 10 < 10 := ⟨Int.tmod_nonneg _ hK.1, Int.tmod_lt_of_pos _ (by decide)⟩
 have h6 : 0 ≤ k.tmod 6 ∧ k.tmod 6 < 6 := ⟨Int.tmod_nonneg _ hK.1, Int.tmod_lt_of_pos _ (by decide)⟩
 have wA : w64 (k.tdiv 2) = k.tdiv 2 := by rw [Int.tdiv_eq_ediv_of_nonneg hK.1]; exact w64_in (by omega)
 have wB : w64 ((t.l.length : Int) + 1) = (t.l.length : Int) + 1 := w64_in (by omega)
 have hI := within1_in (a := k.tdiv 2) (b := (t.l.length : Int) + 1) (by omega)
 rcases hc with rfl | rfl | rfl | rfl | rfl | rfl | rfl | rfl | rfl | rfl | rfl | rfl
 all_goals simp only [stepR, stepV, stepX, Int.reduceLT, reduceIte] at hκ
 iterate 6
  ·refine goGaX2 ?_
   generalize hKc : RUN Γ _ (RUN Γ _ κ [] κ) _ κ = KK
   refine RUN.cond rfl rfl (fun h3 => ?_) (fun h3 => ?_)
   ·have eS : recS k b = { recV k b with toks := 300 } := by unfold recS; rw [if_pos h3]
    rw [eS] at hS1 hS2 hκ
    refine goGaX2 ?_
    subst hKc
    refine goGaX2 ?_
    (try refine ⟨⟨⟨rfl, by omega, hS1⟩, rfl⟩, ?_⟩)
    refine goGaX2 ?_
    (try refine ⟨⟨rfl, by omega, hS1, hS2⟩, ?_⟩)
    refine goGaX2 ?_
    rw [hκ]
    dsimp only [leafK, res11, Vt.o1, Vt.o2, vR, go_sem, Nat.succ, Int.reduceToNat, Nat.reduceAdd, Nat.reduceMul, Nat.reduceSub, Int.reduceLT, Int.reduceLE, Int.reduceNeg, UInt64.reduceToNat, UInt32.reduceToNat, UInt8.reduceToNat]
    and_intros <;> first | rfl | trivial | omega
   ·have eS : recS k b = recV k b := by unfold recS; rw [if_neg (by rw [h3]; exact Bool.false_ne_true)]
    rw [eS] at hS1 hS2 hκ
    refine goGaX2 ?_
    subst hKc
    refine goGaX2 ?_
    (try refine ⟨⟨⟨rfl, by omega, hS1⟩, rfl⟩, ?_⟩)
    refine goGaX2 ?_
    (try refine ⟨⟨rfl, by omega, hS1, hS2⟩, ?_⟩)
    refine goGaX2 ?_
    rw [hκ]
    dsimp only [leafK, res11, Vt.o1, Vt.o2, vR, go_sem, Nat.succ, Int.reduceToNat, Nat.reduceAdd, Nat.reduceMul, Nat.reduceSub, Int.reduceLT, Int.reduceLE, Int.reduceNeg, UInt64.reduceToNat, UInt32.reduceToNat, UInt8.reduceToNat]
    and_intros <;> first | rfl | trivial | omega
 ·refine goGaX2 ?_
  rw [hκ]
  dsimp only [leafK, res11, Vt.o1, Vt.o2, vR, go_sem, Nat.succ, Int.reduceToNat, Nat.reduceAdd, Nat.reduceMul, Nat.reduceSub, Int.reduceLT, Int.reduceLE, Int.reduceNeg, UInt64.reduceToNat, UInt32.reduceToNat, UInt8.reduceToNat]
  and_intros <;> first | rfl | trivial | omega
 ·refine goGaX2 ?_
  rw [hκ]
  dsimp only [leafK, res11, Vt.o1, Vt.o2, vR, go_sem, Nat.succ, Int.reduceToNat, Nat.reduceAdd, Nat.reduceMul, Nat.reduceSub, Int.reduceLT, Int.reduceLE, Int.reduceNeg, UInt64.reduceToNat, UInt32.reduceToNat, UInt8.reduceToNat]
  and_intros <;> first | rfl | trivial | omega
 ·refine goGaX2 ?_
  rw [w64_in (n := k.tmod 6 - 1) (by omega)]
  rw [hκ]
  dsimp only [leafK, res11, Vt.o1, Vt.o2, vR, go_sem, Nat.succ, Int.reduceToNat, Nat.reduceAdd, Nat.reduceMul, Nat.reduceSub, Int.reduceLT, Int.reduceLE, Int.reduceNeg, UInt64.reduceToNat, UInt32.reduceToNat, UInt8.reduceToNat]
  and_intros <;> first | rfl | trivial | omega
 ·refine goGaX2 ?_
  refine RUN.cond rfl rfl (fun h3 => ?_) (fun h3 => ?_)
  ·rw [if_pos h3, if_pos h3] at hκ
   refine goGaX2 ?_
   rw [wA, wB]
   refine goGaX2 ?_
   rw [hκ]
   dsimp only [leafK, res11, Vt.o1, Vt.o2, vR, go_sem, Nat.succ, Int.reduceToNat, Nat.reduceAdd, Nat.reduceMul, Nat.reduceSub, Int.reduceLT, Int.reduceLE, Int.reduceNeg, UInt64.reduceToNat, UInt32.reduceToNat, UInt8.reduceToNat]
   and_intros <;> first | rfl | trivial | omega
  ·rw [if_neg (by rw [h3]; exact Bool.false_ne_true), if_neg (by rw [h3]; exact Bool.false_ne_true)] at hκ
   refine goGaX2 ?_
   rw [hκ]
   dsimp only [leafK, res11, Vt.o1, Vt.o2, vR, go_sem, Nat.succ, Int.reduceToNat, Nat.reduceAdd, Nat.reduceMul, Nat.reduceSub, Int.reduceLT, Int.reduceLE, Int.reduceNeg, UInt64.reduceToNat, UInt32.reduceToNat, UInt8.reduceToNat]
   and_intros <;> first | rfl | trivial | omega
 ·refine goGaX2 ?_
  refine RUN.cond rfl rfl (fun h3 => ?_) (fun h3 => ?_)
  ·rw [if_pos h3, if_pos h3] at hκ
   refine goGaX2 ?_
   rw [wA, wB]
   refine goGaX2 ?_
   rw [hκ]
   dsimp only [leafK, res11, Vt.o1, Vt.o2, vR, go_sem, Nat.succ, Int.reduceToNat, Nat.reduceAdd, Nat.reduceMul, Nat.reduceSub, Int.reduceLT, Int.reduceLE, Int.reduceNeg, UInt64.reduceToNat, UInt32.reduceToNat, UInt8.reduceToNat]
   and_intros <;> first | rfl | trivial | omega
  ·rw [if_neg (by rw [h3]; exact Bool.false_ne_true), if_neg (by rw [h3]; exact Bool.false_ne_true)] at hκ
   refine goGaX2 ?_
   rw [hκ]
   dsimp only [leafK, res11, Vt.o1, Vt.o2, vR, go_sem, Nat.succ, Int.reduceToNat, Nat.reduceAdd, Nat.reduceMul, Nat.reduceSub, Int.reduceLT, Int.reduceLE, Int.reduceNeg, UInt64.reduceToNat, UInt32.reduceToNat, UInt8.reduceToNat]
   and_intros <;> first | rfl | trivial | omega
 ·refine goGaX2 ?_
  refine fork_intro (fun h3 => ?_) (fun h3 => ?_)
  ·unfold sameG nmS at hκ
   rw [if_pos h3] at hκ
   refine goGaX2 ?_
   rw [hκ]
   dsimp only [leafK, res11, Vt.o1, Vt.o2, vR, go_sem, Nat.succ, Int.reduceToNat, Nat.reduceAdd, Nat.reduceMul, Nat.reduceSub, Int.reduceLT, Int.reduceLE, Int.reduceNeg, UInt64.reduceToNat, UInt32.reduceToNat, UInt8.reduceToNat]
   and_intros <;> first | rfl | trivial | omega
  ·unfold sameG nmS at hκ
   rw [if_neg (by rw [h3]; exact Bool.false_ne_true)] at hκ
   refine goGaX2 ?_
   rw [hκ]
   dsimp only [leafK, res11, Vt.o1, Vt.o2, vR, go_sem, Nat.succ, Int.reduceToNat, Nat.reduceAdd, Nat.reduceMul, Nat.reduceSub, Int.reduceLT, Int.reduceLE, Int.reduceNeg, UInt64.reduceToNat, UInt32.reduceToNat, UInt8.reduceToNat]
   and_intros <;> first | rfl | trivial | omega
def eR11 : SpE := ⟨true, evL (consG vtG (consG vtG (consG (valG intD) (consG (valG byD) (consG (valG intlD) nilG))))) (consO 2 vtO (consO 2 vtO (consO 0 valO (consO 0 valO (consO 0 valO nilO))))) (fun x => StepIn x.1 x.2.1 x.2.2.1 x.2.2.2.1 x.2.2.2.2.1.l)
 (fun x _ => .bool (stepR x.1 x.2.1 (x.2.2.1.tmod 12) (x.2.2.1.tdiv 12) x.2.2.2.1)) (fun x => (stepV x.1 (x.2.2.1.tmod 12) (x.2.2.1.tdiv 12) x.2.2.2.1 x.2.2.2.2.1.l, stepX x.2.1 (x.2.2.1.tmod 12) (x.2.2.1.tdiv 12) x.2.2.2.1 x.2.2.2.2.1.l, x.2.2)) noMore⟩
theorem okR11 : SpE.ok Tryz.prog 11 eR11 := evL_ok (.cons vVt (.cons vVt (.cons (.val kInt) (.cons (.val kBy) (.cons (.val kIntL) .nil))))) (fun _ _ => rfl) (fun _ _ => rfl) (fun ⟨s, s', n, b, t, _⟩ h => fR11 s s' n b t h)
end Go.Abs

namespace Go.Abs
open Go.Proofs
set_option maxRecDepth 100000

theorem left_gone {s : Vt} (nm : TX) : (s.gone nm).2.left ≤ s.left := by
 by_cases hs : (s.gone nm).2 = s
 ·rw [hs]; exact Int.le_refl _
 ·obtain ⟨n, hn, e⟩ := gone_slot s nm hs
  rw [e, Vt.write]
  have h1 := st40_left s (wrAt s n) (wrB s n ⟨true, []⟩)
  split
  ·have h2 : ∀ (x : Vt) (m : Int), (x.st41 m).left ≤ x.left := fun x m => by
    cases h : x.go with
    | true => rw [st41_t h]; show (if 0 < x.left then x.left - 1 else x.left) ≤ x.left; split <;> omega
    | false => rw [st41_f h]; exact Int.le_refl _
   exact Int.le_trans (h2 _ _) h1
  ·exact h1
structure Ply (s s' : Vt) (i : Nat) : Prop where
 eqv : Eqv s s'
 low : lowV s (1 + i)
 era : ∃ e : Int, Era s e ∧ 0 ≤ e ∧ e ≤ 1 + i
 fine : s.fine
 left : s.left ≤ 1000
theorem Ply.new : Ply vtN vtR 0 := by
 rw [vtR_eq]
 exact ⟨Eqv.refl _, vtN_low, ⟨1, vtN_era, by decide, by decide⟩, vtN_fine, by rw [vtN_alive.2]; decide⟩
theorem put_both {s s' : Vt} (h : Eqv s s') {N : Nat} (hl : lowV s N) (hN : N < 126) (r : Rec) : ((s.put r).1 == (s'.rput r).1) = true ∧ Eqv (s.put r).2 (s'.rput r).2 := by
 have hl' := h.low hl
 rw [rput_eq (hl'.alike (by omega)) (hl'.rises (by omega)) r]
 obtain ⟨p1, p2⟩ := h.put r
 exact ⟨by rw [p1]; exact beq_self_eq_true _, p2⟩
theorem gone_both {s s' : Vt} (h : Eqv s s') {N : Nat} (hl : lowV s N) (hN : N < 126) (nm : TX) : ((s.gone nm).1 == (s'.rgone nm).1) = true ∧ Eqv (s.gone nm).2 (s'.rgone nm).2 := by
 have hl' := h.low hl
 rw [rgone_eq (hl'.alike (by omega)) (hl'.rises (by omega)) nm]
 obtain ⟨p1, p2⟩ := h.gone nm
 exact ⟨by rw [p1]; exact beq_self_eq_true _, p2⟩
theorem get_both {s s' : Vt} (h : Eqv s s') {N : Nat} (hl : lowV s N) (hN : N < 126) (nm : TX) : (s'.rget nm).isSome = (s.get nm).isSome ∧ (orZR (s'.rget nm)).norm = (orZR (s.get nm)).norm := by
 have hl' := h.low hl
 obtain ⟨a1, a2⟩ := rget_eq (hl'.alike (by omega)) nm
 obtain ⟨b1, b2⟩ := h.get nm
 exact ⟨a1.trans b1, a2.trans b2⟩
theorem Ply.step {s s' : Vt} {i : Nat} (h : Ply s s' i) (hi : i ≤ 100) {m k : Int} (hm : 0 ≤ m ∧ m < 12) (hk : 0 ≤ k) (b : By) (t : List Int) :
  stepR s s' m k b = true ∧ Ply (stepV s m k b t) (stepX s' m k b t) (i + 1) := by
 obtain ⟨e, h1, h2, h3⟩ := h.era
 have hN : 1 + i < 126 := by omega
 have up : ∀ {v : Vt}, lowV v (1 + i + 1) → lowV v (1 + (i + 1)) := fun {v} h => h.mono (by omega)
 unfold stepR stepV stepX
 by_cases c1 : m < 6
 ·rw [if_pos c1, if_pos c1, if_pos c1]
  obtain ⟨p1, p2⟩ := put_both h.eqv h.low hN (recS k b)
  exact ⟨p1, p2, up (put_low h.low hN _), ⟨e, h1.put _, h2, by omega⟩, put_fine h.fine (Nat.le_trans (recS_len k b) (by decide)), Int.le_trans (left_put _) h.left⟩
 rw [if_neg c1, if_neg c1, if_neg c1]
 by_cases c2 : m < 8
 ·rw [if_pos c2, if_pos c2, if_pos c2]
  obtain ⟨p1, p2⟩ := gone_both h.eqv h.low hN (nmS k)
  exact ⟨p1, p2, up (gone_low h.low hN _), ⟨e, h1.gone _, h2, by omega⟩, gone_fine h.fine, Int.le_trans (left_gone _) h.left⟩
 rw [if_neg c2, if_neg c2, if_neg c2]
 by_cases c3 : m < 9
 ·rw [if_pos c3, if_pos c3, if_pos (by omega)]
  have h6 : 0 ≤ k.tmod 6 ∧ k.tmod 6 < 6 := ⟨Int.tmod_nonneg _ hk, Int.tmod_lt_of_pos _ (by decide)⟩
  refine ⟨rfl, h.eqv.fail _, fun j => h.low.mono (by omega) j, ⟨e, h1.fail _, h2, by omega⟩, fail_fine h.fine, ?_⟩
  show (if k.tmod 6 - 1 < -1 then -1 else k.tmod 6 - 1) ≤ 1000
  split <;> omega
 rw [if_neg c3, if_neg c3]
 by_cases c4 : m < 11
 ·rw [if_pos c4, if_pos c4, if_pos c4]
  refine ⟨rfl, ?_⟩
  split
  ·refine ⟨again_eqv h.eqv h.low (by omega) h1 ⟨h2, by omega⟩ _, up (again_low h.low hN), ⟨e + 1, h1.again ⟨h2, by omega⟩ _, by omega, by omega⟩, again_fine h.fine, ?_⟩
   rw [(again_alive s _).2]; decide
  ·exact ⟨h.eqv, h.low.mono (by omega), ⟨e, h1, h2, by omega⟩, h.fine, h.left⟩
 rw [if_neg c4, if_neg c4, if_neg c4]
 refine ⟨?_, h.eqv, h.low.mono (by omega), ⟨e, h1, h2, by omega⟩, h.fine, h.left⟩
 obtain ⟨g1, g2⟩ := get_both h.eqv h.low hN (nmS k)
 unfold sameG
 rw [g1, beq_self_eq_true, if_pos rfl]
 exact (rec_same_norm _ _).2 g2.symm
theorem Ply.stepIn {s s' : Vt} {i : Nat} (h : Ply s s' i) {n : Int} (hn : 0 ≤ n ∧ n < 1073741824) {b : By} (hb : b.l.length ≤ 60) {t : List Int} (ht : t.length ≤ 10) : StepIn s s' n b t :=
 ⟨hn, hb, ht, h.left, by rw [h.eqv.left]; exact h.left, h.fine.low, (h.eqv.fine h.fine).low⟩
end Go.Abs

namespace Go.Abs
open Go.Proofs
set_option maxRecDepth 100000

theorem RUN.alt {Γ : G} {c : CC} {k : KT} {X : List (Nat × KT)} {r : KT} {s : SL} {h : List AO} {sp : Sp} {kp : List Nat} (hsp : Γ.sp = sp) (hkp : Γ.keep = kp) {ops : List CO} {cf : List (Nat × Nat)} {l : List (List CO × List (Nat × Nat))} (hc : c = .alt ops cf l) (hr : ∀ κ : KT, κ = k → runOps sp kp cf ops κ s h ∧ allR sp kp l κ s h) : RUN Γ c k X r s h := by
 subst hc hsp hkp
 exact ⟨⟨2, rfl⟩, hr _ rfl⟩
def sumE : AV → Option (List UInt8)
 | .ab l => some l
 | .agg l => ab? l
 | _ => none
theorem sumE_tell (a : AV) (l : List UInt8) (h : sumE a = some l) : Tell a (.ab l) := by
 unfold sumE at h
 split at h
 ·cases h; exact Tell.refl _
 ·rw [ab?_ok h]; exact tell_ab _
 ·cases h
def kAe : Kd (List UInt8) := ⟨sumE, .ab, sumE_tell, fun _ => rfl⟩
def eR31e : SpE := ⟨true, ev1 sumE (fun l => some (l.length = 16)) fun l => By.A ⟨false, l⟩⟩
theorem okR31e : SpE.ok Tryz.prog 31 eR31e := ev1_ok kAe (fun _ => rfl) (fun l h => fR31 l h)
theorem l16 : ∀ {l : List UInt8}, l.length = 16 → [l.getD 0 0, l.getD 1 0, l.getD 2 0, l.getD 3 0, l.getD 4 0, l.getD 5 0, l.getD 6 0, l.getD 7 0, l.getD 8 0, l.getD 9 0, l.getD 10 0, l.getD 11 0, l.getD 12 0, l.getD 13 0, l.getD 14 0, l.getD 15 0] = l
 | [_, _, _, _, _, _, _, _, _, _, _, _, _, _, _, _], _ => rfl
structure Sound (i : Nat) (b : List UInt8) : Prop where
 len : b.length = 25 + (b.getD 8 0).toNat
 sum : spongeB [⟨false, [99, 101, 108, 108]⟩, ⟨false, num8 (i : Int)⟩, ⟨false, b.take (b.length - 16)⟩] = b.drop (b.length - 16)
theorem Sound.written (i : Nat) (r : Cnt) (hb : r.b.l.length ≤ 255) : Sound i (writtenB (i : Int) r) := by
 have e : writtenB (i : Int) r = eightB r.n ++ (UInt8.ofInt (r.b.l.length : Int) :: (r.b.l ++ tagB (i : Int) r)) := by simp [writtenB, bodyB]
 have h8 := eightB_len r.n
 have hx : (UInt8.ofInt (r.b.l.length : Int)).toNat = r.b.l.length := u8_small (by omega)
 have hl := written_len (i : Int) r
 have hbl := bodyB_len r
 have h1 : (writtenB (i : Int) r).getD 8 0 = UInt8.ofInt (r.b.l.length : Int) := by
  rw [e, List.getD_eq_getElem?_getD, List.getElem?_append_right (by omega), h8]; rfl
 refine ⟨by rw [h1, hx, hl], ?_⟩
 have hn : (writtenB (i : Int) r).length - 16 = (bodyB r).length := by omega
 have ht : (writtenB (i : Int) r).take (bodyB r).length = bodyB r := by rw [writtenB, List.take_left]
 have hd : (writtenB (i : Int) r).drop (bodyB r).length = tagB (i : Int) r := by rw [writtenB, List.drop_left]
 rw [hn, ht, hd, tagB, num8_eight (by omega)]
structure Cln (s : Vt) : Prop where
 dead : s.dead = false
 left : s.left = -1
 cell : ∀ k, k < 18 → (s.c k).torn = false ∧ (s.c k).nxt.l = [] ∧ ((s.c k).now.l = [] ∨ Sound k (s.c k).now.l)
theorem Cln.write {s : Vt} (h : Cln s) {n : Nat} (hn : n ≤ 8) {b : By} (hb : b.l.length ≤ 255) : Cln (s.write n b) := by
 have hl : s.left < 0 := by rw [h.left]; decide
 rw [(write_full (n : Int) b h.dead (.inl hl)).1]
 have hw := wrAt_in s (n : Int) (by omega)
 refine ⟨rfl, ?_, fun k hk => ?_⟩
 ·show (if s.left < 0 then s.left else s.left - 2) = -1
  rw [if_pos hl, h.left]
 ·dsimp only
  by_cases e : k = (wrAt s (n : Int)).toNat
  ·subst e
   rw [updC_self]
   refine ⟨rfl, rfl, .inr ?_⟩
   show Sound _ (writtenB (wrAt s (n : Int)) _)
   have := Sound.written (wrAt s (n : Int)).toNat ⟨w64 ((cntTo s.c (n : Int) 2).2.n + 1), b⟩ hb
   rw [show (((wrAt s (n : Int)).toNat : Nat) : Int) = wrAt s (n : Int) by omega] at this
   exact this
  ·rw [updC_ne _ _ e]
   exact h.cell k hk
theorem Cln.put {s : Vt} (h : Cln s) {r : Rec} (hr : r.outW.l.length ≤ 200) : Cln (s.put r).2 := by
 by_cases c : (s.put r).2 = s
 ·rw [c]; exact h
 ·obtain ⟨n, hn, e⟩ := put_slot s r c
  rw [e]; exact h.write (by omega) (by omega)
theorem Cln.gone {s : Vt} (h : Cln s) (nm : TX) : Cln (s.gone nm).2 := by
 by_cases c : (s.gone nm).2 = s
 ·rw [c]; exact h
 ·obtain ⟨n, hn, e⟩ := gone_slot s nm c
  rw [e]; exact h.write (by omega) (Nat.zero_le _)
theorem Cln.new : Cln vtN := Cln.write (s := vt0) (n := 8) ⟨rfl, rfl, fun k _ => ⟨rfl, rfl, .inl rfl⟩⟩ (Nat.le_refl 8) (by rw [eightB_len]; omega)
theorem Cln.step {s : Vt} (h : Cln s) {m : Int} (hm : m < 8) (k : Int) (b : By) (t : List Int) : Cln (stepV s m k b t) := by
 unfold stepV
 by_cases c1 : m < 6
 ·rw [if_pos c1]; exact h.put (recS_len k b)
 ·rw [if_neg c1, if_pos hm]; exact h.gone _
theorem eqTo_of {s s' : Vt} (h : Eqv s s') : ∀ n, eqTo s.c s'.c n = true
 | 0 => rfl
 | n + 1 => by
   rw [eqTo, eqTo_of h n]
   unfold eqCe
   rw [h.torn, h.now, h.nxt]
   simp only [beq_self_eq_true, Bool.and_self]
end Go.Abs
