/-
  Own work. Conditions: none. Cells. Texts in order. Names. Joined slices by value; Again. The vault's plain laws: a cell that was written is read; what a write does to the pairs. The vault's plain laws: accounts. The vault's plai
-/
import Derived.Test.YtpemjeljhpkjhaaGreatGaB
set_option linter.unusedVariables false
set_option linter.unusedSimpArgs false
set_option linter.unnecessarySimpa false
namespace Go.Abs
theorem goGaC1 {P Q : Prop} (k : Q) (h : Hid Q → P := by (refine fun k__ => ?_); (repeat (first | ((first | refine RUN.sreg hsp hkp rfl (fun κ__ h__ => ?_) | refine RUN.reg hsp hkp rfl (fun κ__ h__ => ?_)); dsimp only [e69, go_sem, Nat.succ, Int.reduceToNat, Nat.reduceAdd, Nat.reduceMul, Nat.reduceSub, Int.reduceLT, Int.reduceLE, Int.reduceNeg, UInt64.reduceToNat, UInt32.reduceToNat, UInt8.reduceToNat]; subst h__) | refine RUN.block rfl ?_ | refine RUN.skip rfl ?_ | refine RUN.ret rfl ?_ | (refine RUN.exit rfl ?_; dsimp only [xfind, xfB, Nat.beq]) | (refine RUN.seq rfl (fun κ__ h__ => ?_); subst h__) | (refine RUN.cond rfl (p := true) rfl (fun _ => ?_) (fun h__ => by cases h__)) | (refine RUN.cond rfl (p := false) rfl (fun h__ => by cases h__) (fun _ => ?_)) | refine ⟨by first | trivial | omega | (and_intros <;> first | trivial | rfl | omega) | rfl, ?_⟩)); exact k__.out) : P := h ⟨k⟩
theorem goGaC2 {P Q : Prop} (k : Q) (h : Hid Q → P := by (refine fun k__ => ?_); (repeat (first | ((first | refine RUN.sreg hsp hkp rfl (fun κ__ h__ => ?_) | refine RUN.reg hsp hkp rfl (fun κ__ h__ => ?_)); dsimp only [Int.toNat_natCast, sfn, e69, go_sem, Nat.succ, Int.reduceToNat, Nat.reduceAdd, Nat.reduceMul, Nat.reduceSub, Int.reduceLT, Int.reduceLE, Int.reduceNeg, UInt64.reduceToNat, UInt32.reduceToNat, UInt8.reduceToNat]; subst h__) | refine RUN.block rfl ?_ | refine RUN.skip rfl ?_ | refine RUN.ret rfl ?_ | (refine RUN.exit rfl ?_; dsimp only [xfind, xfB, Nat.beq]) | (refine RUN.seq rfl (fun κ__ h__ => ?_); subst h__) | (refine RUN.cond rfl (p := true) rfl (fun _ => ?_) (fun h__ => by cases h__)) | (refine RUN.cond rfl (p := false) rfl (fun h__ => by cases h__) (fun _ => ?_)) | refine ⟨by first | trivial | omega | (and_intros <;> first | trivial | rfl | omega) | rfl, ?_⟩)); exact k__.out) : P := h ⟨k⟩
theorem goGaC3 {P Q : Prop} (k : Q) (h : Hid Q → P := by (refine fun k__ => ?_); (repeat (first | ((first | refine RUN.sreg hsp hkp rfl (fun κ__ h__ => ?_) | refine RUN.reg hsp hkp rfl (fun κ__ h__ => ?_)); dsimp only [e63, e63n, e63o, evL, orE, consG, consO, valG, valO, nilG, nilO, noMore, nilsD, txG, txO, rwD, sD, sfn, allB, not, id, rhoC, hsetL, happ, happO, nodupC, inC, appN, go_sem, Nat.succ, Int.reduceToNat, Nat.reduceAdd, Nat.reduceMul, Nat.reduceSub, Int.reduceLT, Int.reduceLE, Int.reduceNeg, UInt64.reduceToNat, UInt32.reduceToNat, UInt8.reduceToNat]; subst h__) | refine RUN.block rfl ?_ | refine RUN.skip rfl ?_ | refine RUN.ret rfl ?_ | (refine RUN.exit rfl ?_; dsimp only [xfind, xfB, Nat.beq]) | (refine RUN.seq rfl (fun κ__ h__ => ?_); subst h__) | (refine RUN.cond rfl (p := true) rfl (fun _ => ?_) (fun h__ => by cases h__)) | (refine RUN.cond rfl (p := false) rfl (fun h__ => by cases h__) (fun _ => ?_)) | refine ⟨by first | trivial | omega | (and_intros <;> first | trivial | rfl | omega) | rfl, ?_⟩)); exact k__.out) : P := h ⟨k⟩
theorem goGaC4 {P Q : Prop} (k : Q) (h : Hid Q → P := by (refine fun k__ => ?_); (repeat (first | ((first | refine RUN.sreg hsp hkp rfl (fun κ__ h__ => ?_) | refine RUN.reg hsp hkp rfl (fun κ__ h__ => ?_)); dsimp only [go_sem, Nat.succ, Int.reduceToNat, Nat.reduceAdd, Nat.reduceMul, Nat.reduceSub, Int.reduceLT, Int.reduceLE, Int.reduceNeg, UInt64.reduceToNat, UInt32.reduceToNat, UInt8.reduceToNat]; subst h__) | refine RUN.block rfl ?_ | refine RUN.skip rfl ?_ | refine RUN.ret rfl ?_ | (refine RUN.exit rfl ?_; dsimp only [xfind, xfB, Nat.beq]) | (refine RUN.seq rfl (fun κ__ h__ => ?_); subst h__) | (refine RUN.cond rfl (p := true) rfl (fun _ => ?_) (fun h__ => by cases h__)) | (refine RUN.cond rfl (p := false) rfl (fun h__ => by cases h__) (fun _ => ?_)) | refine ⟨by first | trivial | omega | (and_intros <;> first | trivial | rfl | omega) | rfl, ?_⟩)); exact k__.out) : P := h ⟨k⟩
theorem goGaC5 {P Q : Prop} (k : Q) (h : Hid Q → P := by (refine fun k__ => ?_); (repeat (first | ((first | refine RUN.sreg hsp hkp rfl (fun κ__ h__ => ?_) | refine RUN.reg hsp hkp rfl (fun κ__ h__ => ?_)); dsimp only [e55, e55n, e55o, e56, evL, orE, consG, consO, valG, valO, nilG, nilO, noMore, nilsD, txG, txO, rwD, sD, sfn, allB, not, u64D, id, rhoC, hsetL, happ, happO, nodupC, inC, appN, go_sem, Nat.succ, Int.reduceToNat, Nat.reduceAdd, Nat.reduceMul, Nat.reduceSub, Int.reduceLT, Int.reduceLE, Int.reduceNeg, UInt64.reduceToNat, UInt32.reduceToNat, UInt8.reduceToNat]; subst h__) | refine RUN.block rfl ?_ | refine RUN.skip rfl ?_ | refine RUN.ret rfl ?_ | (refine RUN.exit rfl ?_; dsimp only [xfind, xfB, Nat.beq]) | (refine RUN.seq rfl (fun κ__ h__ => ?_); subst h__) | (refine RUN.cond rfl (p := true) rfl (fun _ => ?_) (fun h__ => by cases h__)) | (refine RUN.cond rfl (p := false) rfl (fun h__ => by cases h__) (fun _ => ?_)) | refine ⟨by first | trivial | omega | (and_intros <;> first | trivial | rfl | omega) | rfl, ?_⟩)); exact k__.out) : P := h ⟨k⟩
theorem goGaC6 {P Q : Prop} (k : Q) (h : Hid Q → P := by (refine fun k__ => ?_); (repeat (first | ((first | refine RUN.sreg hsp hkp rfl (fun κ__ h__ => ?_) | refine RUN.reg hsp hkp rfl (fun κ__ h__ => ?_)); dsimp only [e36, e36n, e36o, e37, evL, orE, consG, consO, valG, valO, nilG, nilO, noMore, nilsD, txG, txO, txvG, rwD, sD, sfn, allB, not, id, rhoC, hsetL, happ, happO, nodupC, inC, appN, go_sem, Nat.succ, Int.reduceToNat, Nat.reduceAdd, Nat.reduceMul, Nat.reduceSub, Int.reduceLT, Int.reduceLE, Int.reduceNeg, UInt64.reduceToNat, UInt32.reduceToNat, UInt8.reduceToNat]; subst h__) | refine RUN.block rfl ?_ | refine RUN.skip rfl ?_ | refine RUN.ret rfl ?_ | (refine RUN.exit rfl ?_; dsimp only [xfind, xfB, Nat.beq]) | (refine RUN.seq rfl (fun κ__ h__ => ?_); subst h__) | (refine RUN.cond rfl (p := true) rfl (fun _ => ?_) (fun h__ => by cases h__)) | (refine RUN.cond rfl (p := false) rfl (fun h__ => by cases h__) (fun _ => ?_)) | refine ⟨by first | trivial | omega | (and_intros <;> first | trivial | rfl | omega) | rfl, ?_⟩)); exact k__.out) : P := h ⟨k⟩
theorem goGaC7 {P Q : Prop} (k : Q) (h : Hid Q → P := by (refine fun k__ => ?_); (repeat (first | ((first | refine RUN.sreg hsp hkp rfl (fun κ__ h__ => ?_) | refine RUN.reg hsp hkp rfl (fun κ__ h__ => ?_)); dsimp only [psF, e50z, evL, consG, consO, valG, valO, nilG, nilO, noMore, nilsD, id, rhoC, hsetL, happ, happO, nodupC, inC, appN, By.eta, Int.toNat_natCast, go_sem, Nat.succ, Int.reduceToNat, Nat.reduceAdd, Nat.reduceMul, Nat.reduceSub, Int.reduceLT, Int.reduceLE, Int.reduceNeg, UInt64.reduceToNat, UInt32.reduceToNat, UInt8.reduceToNat]; subst h__) | refine RUN.block rfl ?_ | refine RUN.skip rfl ?_ | refine RUN.ret rfl ?_ | (refine RUN.exit rfl ?_; dsimp only [xfind, xfB, Nat.beq]) | (refine RUN.seq rfl (fun κ__ h__ => ?_); subst h__) | (refine RUN.cond rfl (p := true) rfl (fun _ => ?_) (fun h__ => by cases h__)) | (refine RUN.cond rfl (p := false) rfl (fun h__ => by cases h__) (fun _ => ?_)) | refine ⟨by first | trivial | omega | (and_intros <;> first | trivial | rfl | omega) | rfl, ?_⟩)); exact k__.out) : P := h ⟨k⟩
theorem goGaC8 {P Q : Prop} (k : Q) (h : Hid Q → P := by (refine fun k__ => ?_); (repeat (first | ((first | refine RUN.sreg hsp hkp rfl (fun κ__ h__ => ?_) | refine RUN.reg hsp hkp rfl (fun κ__ h__ => ?_)); dsimp only [vf, By.eta, Ce.eta, Int.toNat_natCast, go_sem, Nat.succ, Int.reduceToNat, Nat.reduceAdd, Nat.reduceMul, Nat.reduceSub, Int.reduceLT, Int.reduceLE, Int.reduceNeg, UInt64.reduceToNat, UInt32.reduceToNat, UInt8.reduceToNat]; subst h__) | refine RUN.block rfl ?_ | refine RUN.skip rfl ?_ | refine RUN.ret rfl ?_ | (refine RUN.exit rfl ?_; dsimp only [xfind, xfB, Nat.beq]) | (refine RUN.seq rfl (fun κ__ h__ => ?_); subst h__) | (refine RUN.cond rfl (p := true) rfl (fun _ => ?_) (fun h__ => by cases h__)) | (refine RUN.cond rfl (p := false) rfl (fun h__ => by cases h__) (fun _ => ?_)) | refine ⟨by first | trivial | omega | (and_intros <;> first | trivial | rfl | omega) | rfl, ?_⟩)); exact k__.out) : P := h ⟨k⟩
theorem goGaC9 {P Q : Prop} (k : Q) (h : Hid Q → P := by (refine fun k__ => ?_); (repeat (first | ((first | refine RUN.sreg hsp hkp rfl (fun κ__ h__ => ?_) | refine RUN.reg hsp hkp rfl (fun κ__ h__ => ?_)); dsimp only [e30v, partsD, byDL, allB, not, vf, By.eta, Ce.eta, Int.toNat_natCast, go_sem, Nat.succ, Int.reduceToNat, Nat.reduceAdd, Nat.reduceMul, Nat.reduceSub, Int.reduceLT, Int.reduceLE, Int.reduceNeg, UInt64.reduceToNat, UInt32.reduceToNat, UInt8.reduceToNat]; subst h__) | refine RUN.block rfl ?_ | refine RUN.skip rfl ?_ | refine RUN.ret rfl ?_ | (refine RUN.exit rfl ?_; dsimp only [xfind, xfB, Nat.beq]) | (refine RUN.seq rfl (fun κ__ h__ => ?_); subst h__) | (refine RUN.cond rfl (p := true) rfl (fun _ => ?_) (fun h__ => by cases h__)) | (refine RUN.cond rfl (p := false) rfl (fun h__ => by cases h__) (fun _ => ?_)) | refine ⟨by first | trivial | omega | (and_intros <;> first | trivial | rfl | omega) | rfl, ?_⟩)); exact k__.out) : P := h ⟨k⟩
theorem goGaC10 {P Q : Prop} (k : Q) (h : Hid Q → P := by (refine fun k__ => ?_); (repeat (first | ((first | refine RUN.sreg hsp hkp rfl (fun κ__ h__ => ?_) | refine RUN.reg hsp hkp rfl (fun κ__ h__ => ?_)); dsimp only [e9, e12, e14, e15, e16, e17, e18, e21, evV, vtD, rwD, recD, intlD, allB, not, evL, consG, consO, valG, valO, nilG, nilO, noMore, vtG, vtO, id, rhoC, hsetL, happ, happO, nodupC, inC, appN, Vt.o1, Vt.o2, vR, toCe_vf, By.eta, Ce.eta, Vt.eta, Rec.eta, Num.eta, Rec.C, go_sem, Nat.succ, Int.reduceToNat, Nat.reduceAdd, Nat.reduceMul, Nat.reduceSub, Int.reduceLT, Int.reduceLE, Int.reduceNeg, UInt64.reduceToNat, UInt32.reduceToNat, UInt8.reduceToNat]; subst h__) | refine RUN.block rfl ?_ | refine RUN.skip rfl ?_ | refine RUN.ret rfl ?_ | (refine RUN.exit rfl ?_; dsimp only [xfind, xfB, Nat.beq]) | (refine RUN.seq rfl (fun κ__ h__ => ?_); subst h__) | (refine RUN.cond rfl (p := true) rfl (fun _ => ?_) (fun h__ => by cases h__)) | (refine RUN.cond rfl (p := false) rfl (fun h__ => by cases h__) (fun _ => ?_)) | refine ⟨by first | trivial | omega | (and_intros <;> first | trivial | rfl | omega) | rfl, ?_⟩)); exact k__.out) : P := h ⟨k⟩
open Go.Proofs
set_option maxRecDepth 100000

theorem rw_take {E : Env} {sz n m : Nat} {f : Nat → List FV} {vs : List Value} (h : relL E ((mapA (flatF sz f n)).take m) vs) (hm : n * sz ≤ m) : relFL E (flatF sz f n) vs := by
 rw [mapA_eq, List.take_of_length_le (by rw [List.length_map, flatF_len]; exact hm)] at h
 exact relFL_A.1 h
theorem tell_rwT (sz : Nat) (f : Nat → List FV) (n : Nat) (fl : Bool) : Tell (.sl false n sz (.agg ((mapA (flatF sz f n)).take (n * sz))) fl) (.sl false n sz (.rw n sz f) false) := by
 intro E v r
 simp only [rel, Bool.false_eq_true, if_false] at r ⊢
 obtain ⟨a, cap, vs, h1, h2, h3, h4, h5, h6⟩ := r
 simp only [relC] at h6 ⊢
 exact ⟨a, cap, vs, h1, h2, (fun e => by cases e), h4, h5, rw_take h6.1 (Nat.le_refl _), h6.2⟩
theorem tellC_rw {sz n m : Nat} {f g : Nat → List FV} (h : n = m) (hf : ∀ k, k < m → normF sz (f k) = normF sz (g k)) : TellC (.rw n sz f) (.rw m sz g) := by
 intro E vs r
 subst h
 simp only [relC] at r ⊢
 rw [← flatF_congr sz hf]
 exact r
theorem tellC_rw0 (sz : Nat) (f : Nat → List FV) : TellC (.agg []) (.rw 0 sz f) := by
 intro E vs r
 simp only [relC, flatF, relL, relFL] at r ⊢
 exact r
theorem snocF_lt {f : Nat → List FV} {n k : Nat} {xs : List FV} (h : k < n) : snocF f n xs k = f k := by
 have : Nat.beq k n = false := by cases hb : Nat.beq k n with | false => rfl | true => have := Nat.eq_of_beq_eq_true hb; omega
 simp only [snocF, this]
theorem snocF_eq {f : Nat → List FV} {n : Nat} {xs : List FV} : snocF f n xs n = xs := by simp only [snocF, Nat.beq_refl]
theorem match_k (k : Nat) : (match Nat.beq k 0 with | true => 0 | false => k) = k := by
 cases k <;> rfl
theorem tellC_snoc {sz k : Nat} {f : Nat → List FV} {xs : List FV} (hx : xs = f k) : TellC (.rw ((match Nat.beq k 0 with | true => 0 | false => k) + 1) sz (snocF f (match Nat.beq k 0 with | true => 0 | false => k) xs)) (.rw (k + 1) sz f) := by
 rw [match_k]
 refine tellC_rw rfl fun i hi => ?_
 rcases Nat.lt_or_ge i k with h | h
 ·rw [snocF_lt h]
 ·obtain rfl : i = k := by omega
  rw [snocF_eq, hx]
def rw3D : AV → Option (Nat × (Nat → List FV))
 | .sl nl n sz c fl => match c with
   | .rw m sz' f => match allB [not nl, Nat.beq sz 3, Nat.beq sz' 3, Nat.beq m n] with
     | true => some (n, f)
     | false => none
   | _ => none
 | _ => none
theorem rw3D_tell (a : AV) (x : Nat × (Nat → List FV)) (h : rw3D a = some x) : Tell a (.sl false x.1 3 (.rw x.1 3 x.2) false) := by
 unfold rw3D at h
 split at h
 ·rename_i nl n sz c fl
  split at h
  ·rename_i m sz' f
   split at h
   ·rename_i hb
    cases h
    obtain ⟨b1, hb⟩ := allB_cons hb
    obtain ⟨b2, hb⟩ := allB_cons hb
    obtain ⟨b3, hb⟩ := allB_cons hb
    obtain ⟨b4, hb⟩ := allB_cons hb
    obtain rfl := Nat.eq_of_beq_eq_true b2
    obtain rfl := Nat.eq_of_beq_eq_true b3
    obtain rfl := Nat.eq_of_beq_eq_true b4
    cases nl with
    | true => cases b1
    | false => exact fun E v r => sl_full r
   ·cases h
  ·cases h
 ·cases h
def kRw3 : Kd (Nat × (Nat → List FV)) := ⟨rw3D, fun x => .sl false x.1 3 (.rw x.1 3 x.2) false, rw3D_tell, fun _ => rfl⟩
theorem fn34 (f : Nat → List FV) (n : Nat) : ACalls Tryz.prog 57 [.sl false n 3 (.rw n 3 f) false] [] (fun r h => r = .sl false n 3 (.rw n 3 f) false ∧ h = []) := by
 refine ACalls.tell (K := fun r h => r = .sl false n 3 (.agg ((mapA (flatF 3 f n)).take (n * 3))) true ∧ h = []) ?_ ?_
 ·refine o57.run (Γ := G0 keep57 []) (own := true) (kn := 0) .nil (Nat.le_of_ble_eq_true rfl) rfl (Nat.le_refl _) ?_
  dsimp only [c57, keep57, res57, Int.toNat_natCast, go_sem, Nat.succ, Int.reduceToNat, Nat.reduceAdd, Nat.reduceMul, Nat.reduceSub, Int.reduceLT, Int.reduceLE, Int.reduceNeg, UInt64.reduceToNat, UInt32.reduceToNat, UInt8.reduceToNat]
  refine ⟨by omega, ?_⟩
  and_intros <;> first | trivial | rfl
 ·rintro r hh ⟨rfl, rfl⟩
  exact ⟨_, _, ⟨rfl, rfl⟩, tell_rwT _ _ _ _, TellH.refl _⟩
def e34 : SpE := ⟨true, ev1 rw3D (fun _ => none) fun x => .sl false x.1 3 (.rw x.1 3 x.2) false⟩
theorem ok34 : SpE.ok Tryz.prog 57 e34 := ev1_ok kRw3 (fun _ => rfl) (fun x _ => fn34 x.2 x.1)
def L17 (s : Vt) : LI where
 X := Nat
 x0 := 0
 pre k := k ≤ 18
 inv k := ([(0, .ptr 0 0 0), (3, .ms false 2 0 0 k 3), (17, .ms false 1 0 0 18 3), (18, .int 18), (19, .int k)], [s.o1 1, s.o2, ⟨0, .rw k 3 (vf s.c), false⟩])
 mu k := 18 - k
 ren := true
theorem fn17 (s : Vt) (hs : ∀ k, (s.c k).now.l.length ≤ 1099511627776 ∧ (s.c k).nxt.l.length ≤ 1099511627776) : ACalls Tryz.prog 23 [.ptr 0 0 0] [s.o1 1, s.o2] (fun r h => r = .sl false 18 3 (.rw 18 3 (vf s.c)) false ∧ h = [s.o1 1, s.o2]) := by
 refine o23.run (Γ := GKL 2 keep23 [(56, e33), (57, e34)] fun _ => L17 s) (own := true) (kn := 2) (.cons ok33 o56.enter (.cons ok34 o57.enter .nil)) (Nat.le_of_ble_eq_true rfl) rfl (Nat.le_refl _) ?_
 dsimp only [c23, keep23, res23, L17, Vt.o1, Vt.o2, vR, e33, e34, rw3D, allB, not, By.eta, Ce.eta, Vt.eta, Int.toNat_natCast, vf, go_sem, Nat.succ, Int.reduceToNat, Nat.reduceAdd, Nat.reduceMul, Nat.reduceSub, Int.reduceLT, Int.reduceLE, Int.reduceNeg, UInt64.reduceToNat, UInt32.reduceToNat, UInt8.reduceToNat]
 refine ⟨by omega, ⟨⟨[some 0, some 1, some 2], rfl, ?_, by first | rfl | trivial, ?_⟩, Nat.zero_le _⟩, fun k hk => ?_⟩
 ·exact rn
 ·exact rn
 ·refine fork_intro (fun h => ?_) (fun h => ?_)
  ·have h := of_decide_eq_true h
   have wk : w64 ((k : Int) + 1) = ((k + 1 : Nat) : Int) := by rw [w64_in (by omega)]; omega
   rw [wk]
   refine ⟨by omega, by omega, rfl, by have := hs k; omega, by have := hs k; omega, ⟨by cases k <;> rfl, by omega⟩, k + 1, by omega, by omega, [some 0, some 1, some 2], rfl, ?_, by first | rfl | trivial, ?_⟩
   ·exact rn
   ·exact rn
  ·have h := of_decide_eq_false h
   have : k = 18 := by omega
   subst this
   and_intros <;> first | trivial | rfl | exact Nat.le_of_ble_eq_true rfl
def Vt.small (s : Vt) : Prop := ∀ k, (s.c k).now.l.length ≤ 1099511627776 ∧ (s.c k).nxt.l.length ≤ 1099511627776
def e17 : SpE := ⟨true, evV l0D (fun s _ => s.small) (fun s _ => .sl false 18 3 (.rw 18 3 (vf s.c)) false) (fun s _ => s)⟩
theorem ok17 : SpE.ok Tryz.prog 23 e17 := evV_ok kl0 (fun _ _ => rfl) (fun s _ h => fn17 s h)
open Go.Proofs
set_option maxRecDepth 100000

abbrev TX := List UInt8
theorem fn81 (a : TX) : ACalls Tryz.prog 123 [.str a] [] (fun r h => r = .bool false ∧ h = []) := by
 refine o123.run (Γ := G0 keep123 []) (own := false) (kn := 0) .nil (Nat.le_of_ble_eq_true rfl) rfl (Nat.le_refl _) ?_
 dsimp only [c123, keep123, res123, go_sem, Nat.succ, Int.reduceToNat, Nat.reduceAdd, Nat.reduceMul, Nat.reduceSub, Int.reduceLT, Int.reduceLE, Int.reduceNeg, UInt64.reduceToNat, UInt32.reduceToNat, UInt8.reduceToNat]
 simp only [beq_self_eq_true, Bool.not_true]
 and_intros <;> first | rfl | trivial
def e81 : SpE := ⟨true, ev1 strD (fun _ => none) fun _ => .bool false⟩
theorem ok81 : SpE.ok Tryz.prog 123 e81 := ev1_ok kStr (fun _ => rfl) (fun x _ => fn81 x)
theorem fn69 (a b : TX) : ACalls Tryz.prog 109 [.str a, .str b] [] (fun r h => r = .bool (Op.bytesLess a b) ∧ h = []) := by
 refine o109.run (Γ := G0 keep109 [(123, e81)]) (own := false) (kn := 0) (.cons ok81 o123.enter .nil) (Nat.le_of_ble_eq_true rfl) rfl (Nat.le_refl _) ?_
 dsimp only [c109, keep109, res109, e81, go_sem, Nat.succ, Int.reduceToNat, Nat.reduceAdd, Nat.reduceMul, Nat.reduceSub, Int.reduceLT, Int.reduceLE, Int.reduceNeg, UInt64.reduceToNat, UInt32.reduceToNat, UInt8.reduceToNat]
 and_intros <;> first | rfl | trivial
def e69 : SpE := ⟨true, ev2 strD strD (fun _ _ => none) fun a b => .bool (Op.bytesLess a b)⟩
theorem ok69 : SpE.ok Tryz.prog 109 e69 := ev2_ok kStr kStr (fun _ _ => rfl) (fun x y _ => fn69 x y)

def sfn (g : Nat → TX) (i : Nat) : List FV := [.s (g i)]
def sD : List FV → TX
 | [.s l] => l
 | _ => []
def swp (g : Nat → TX) (j : Nat) (x : Nat) : TX := if x = j then g (j - 1) else if x = j - 1 then g j else g x
def insF (g : Nat → TX) : Nat → Nat → TX
 | 0 => g
 | j + 1 => if Op.bytesLess (g (j + 1)) (g j) then insF (swp g (j + 1)) j else g
def outF (g : Nat → TX) : Nat → Nat → TX
 | 0 => g
 | k + 1 => insF (outF g k) (k + 1)
def srt (g : Nat → TX) (n : Nat) : Nat → TX := outF g (n - 1)
theorem fupd_swp (g : Nat → TX) (j : Nat) (hj : 0 < j) : fupd (fupd (sfn g) j [.s (g (j - 1))]) (j - 1) [.s (g j)] = sfn (swp g j) := by
 funext x
 unfold fupd sfn swp
 by_cases h1 : x = j
 ·subst h1
  have : Nat.beq x (x - 1) = false := by cases hb : Nat.beq x (x - 1) with | false => rfl | true => have := Nat.eq_of_beq_eq_true hb; omega
  simp only [this, Nat.beq_refl, if_true]
 ·have e1 : Nat.beq x j = false := by cases hb : Nat.beq x j with | false => rfl | true => exact absurd (Nat.eq_of_beq_eq_true hb) h1
  by_cases h2 : x = j - 1
  ·subst h2
   simp only [Nat.beq_refl, if_neg h1, if_true]
  ·have e2 : Nat.beq x (j - 1) = false := by cases hb : Nat.beq x (j - 1) with | false => rfl | true => exact absurd (Nat.eq_of_beq_eq_true hb) h2
   simp only [e1, e2, if_neg h1, if_neg h2]
def iOf : AV → Nat
 | .int n => n.toNat
 | _ => 0
def gOf (h : List AO) : Nat → TX := match hget h 0 with
 | some o => match rwD o.c with
   | some (_, _, f) => fun i => sD (f i)
   | none => fun _ => []
 | none => fun _ => []
def L63a (n : Nat) (g : Nat → TX) : LI where
 X := Nat
 x0 := 0
 pre k := k ≤ n - 1
 inv k := ([(0, .ms false 0 0 0 n 1), (1, .int 0), (2, .int n), (6, .int ((k + 1 : Nat) : Int))], [⟨0, .rw n 1 (sfn (outF g k)), false⟩])
 mu k := n - k
 ren := true
def L63b (n : Nat) (s : SL) (h : List AO) : LI where
 X := Nat × (Nat → TX)
 x0 := (iOf (look s 6), gOf h)
 pre x := x.1 ≤ n - 1 ∧ insF x.2 x.1 = insF (gOf h) (iOf (look s 6))
 inv x := ([(0, .ms false 0 0 0 n 1), (1, .int 0), (2, .int n), (6, look s 6), (7, .int x.1)], [⟨0, .rw n 1 (sfn x.2), false⟩])
 mu x := x.1
 ren := true
theorem fn63 (n : Nat) (g : Nat → TX) (hn : 1 ≤ n ∧ n ≤ 1000) : ACalls Tryz.prog 103 [.ms false 0 0 0 n 1, .int 0, .int n] [⟨0, .rw n 1 (sfn g), false⟩] (fun r h => r = .tup [] ∧ h = [⟨0, .rw n 1 (sfn (srt g n)), false⟩]) := by
 refine o103.runS [(109, e69)] keep103 1 (fun i s h => li2 (L63a n g) (L63b n s h) i) (own := true) (kn := 1) (.cons ok69 o109.enter .nil) (Nat.le_of_ble_eq_true rfl) rfl (Nat.le_refl _) (fun Γ hsp hkp hk0 hinv κ hκ => ?_)
 dsimp only [keep103] at hkp
 refine goGaC1 ?_
 refine RUN.loop hk0 hinv rfl rfl (L := L63a n g) rfl rfl rfl ?_ ?_ (fun (k : Nat) (hk : k ≤ n - 1) κ1 h1 => ?_)
 ·dsimp only [L63a, fits]
  refine ⟨[some 0], rfl, ?_, by first | rfl | trivial, ?_⟩
  ·exact rn
  ·exact rn
 ·exact Nat.zero_le _
 dsimp only [L63a]
 refine goGaC1 ?_
 refine RUN.cond rfl rfl (fun hc => ?_) (fun hc => ?_)
 ·have hc := of_decide_eq_true hc
  refine goGaC1 ?_
  refine RUN.loop hk0 hinv rfl rfl (L := L63b n _ _) rfl rfl rfl ?_ ?_ (fun x hx κ2 h2 => ?_)
  ·dsimp only [L63b, fits, iOf, gOf, rwD, sD, sfn, Int.toNat_natCast, look, lookB, Nat.beq]
   refine ⟨[some 0], rfl, ?_, by first | rfl | trivial, ?_⟩
   ·exact rn
   ·exact rn
  ·dsimp only [L63b, fits, iOf, gOf, rwD, sD, sfn, Int.toNat_natCast, look, lookB, Nat.beq, hget]
   exact ⟨by omega, rfl⟩
  obtain ⟨j, q⟩ := x
  dsimp only [L63b, iOf, gOf, rwD, sD, sfn, Int.toNat_natCast, look, lookB, Nat.beq, hget] at hx h2 ⊢
  have fin : ∀ a b c, q = outF g (k + 1) → κ1 = loopK 1 (L63a n g) k → κ1 [(0, .ms false 0 0 0 n 1), (1, .int 0), (2, .int n), (6, .int (w64 (((k + 1 : Nat) : Int) + 1))), (7, a), (12, b), (30, c)] [⟨0, .rw n 1 (sfn q), false⟩] := fun a b c hq h1 => by
   subst h1 hq
   rw [w64_in (by omega)]
   dsimp only [loopK, fits, L63a]
   refine ⟨k + 1, by omega, by omega, [some 0], rfl, ?_, by first | rfl | trivial, ?_⟩
   ·exact rn
   ·exact rn
  refine goGaC2 ?_
  refine fork_intro (fun h3 => ?_) (fun h3 => ?_)
  ·have h3 : 0 < j := by have := of_decide_eq_true h3; omega
   have w1 : w64 ((j : Int) - 1) = ((j - 1 : Nat) : Int) := by rw [w64_in (by omega)]; omega
   rw [w1]
   simp only [Int.toNat_natCast]
   refine ⟨by omega, by omega, by omega, by omega, ?_⟩
   refine RUN.cond rfl rfl (fun h4 => ?_) (fun h4 => ?_)
   ·refine goGaC2 ?_
    rw [w1]
    simp only [Int.toNat_natCast]
    have hf : fupd (sfn q) j [FV.s (q (j - 1))] (j - 1) = sfn q (j - 1) := by
     have : Nat.beq (j - 1) j = false := by cases hb : Nat.beq (j - 1) j with | false => rfl | true => have := Nat.eq_of_beq_eq_true hb; omega
     unfold fupd; rw [this]
    rw [hf]
    dsimp only [sfn, go_sem, Nat.succ, Int.reduceToNat, Nat.reduceAdd, Nat.reduceMul, Nat.reduceSub, Int.reduceLT, Int.reduceLE, Int.reduceNeg, UInt64.reduceToNat, UInt32.reduceToNat, UInt8.reduceToNat]
    refine ⟨by omega, ?_⟩
    rw [fupd_swp q j h3]
    refine goGaC1 ?_
    rw [w1]
    subst h2
    dsimp only [loopK, fits]
    refine ⟨(j - 1, swp q j), ⟨by dsimp only; omega, ?_⟩, by dsimp only; omega, [some 0], rfl, ?_, by first | rfl | trivial, ?_⟩
    ·rw [← hx.2]
     obtain ⟨j, rfl⟩ : ∃ i, j = i + 1 := ⟨j - 1, by omega⟩
     show insF (swp q (j + 1)) j = insF q (j + 1)
     rw [insF, if_pos (show Op.bytesLess (q (j + 1)) (q j) = true from h4)]
    ·exact rn
    ·exact rn
   ·refine goGaC1 ?_
    refine fin _ _ _ ?_ h1
    show q = insF (outF g k) (k + 1)
    rw [← show insF q j = insF (outF g k) (k + 1) from hx.2]
    obtain ⟨j, rfl⟩ : ∃ i, j = i + 1 := ⟨j - 1, by omega⟩
    rw [insF, if_neg (by rw [show Op.bytesLess (q (j + 1)) (q j) = false from h4]; exact Bool.false_ne_true)]
  ·have h3 : j = 0 := by have := of_decide_eq_false h3; omega
   subst h3
   refine goGaC1 ?_
   refine fin _ _ _ ?_ h1
   show q = insF (outF g k) (k + 1)
   rw [← show insF q 0 = insF (outF g k) (k + 1) from hx.2]
   rfl
 ·refine goGaC1 ?_
  have hc := of_decide_eq_false hc
  subst hκ
  dsimp only [leafK, res103, go_sem, Nat.succ, Int.reduceToNat, Nat.reduceAdd, Nat.reduceMul, Nat.reduceSub, Int.reduceLT, Int.reduceLE, Int.reduceNeg, UInt64.reduceToNat, UInt32.reduceToNat, UInt8.reduceToNat]
  have e : k = n - 1 := by omega
  rw [srt, e]
  and_intros <;> rfl
theorem tell_nilm {i e o n sz : Nat} : Tell (.ms true i e o n sz) (.sl true 0 0 (.agg []) true) := fun E v r => by
 simp only [rel, if_true] at r ⊢
 exact ⟨r.1, trivial, by simp [relC, relL, ones]⟩
theorem tell_niln {n sz : Nat} {c : AV} {fl : Bool} : Tell (.sl true n sz c fl) (.sl true 0 0 (.agg []) true) := fun E v r => by
 simp only [rel, if_true] at r ⊢
 exact ⟨r.1, trivial, by simp [relC, relL, ones]⟩
def nilsD : AV → Option Unit
 | .ms nl _ _ _ _ _ => match nl with | true => some () | false => none
 | .sl nl _ _ _ _ => match nl with | true => some () | false => none
 | _ => none
def nilA (_ : Unit) : AV := .sl true 0 0 (.agg []) true
theorem nilsD_tell (a : AV) (x : Unit) (h : nilsD a = some x) : Tell a (nilA x) := by
 unfold nilsD at h
 split at h
 ·split at h
  ·exact tell_nilm
  ·cases h
 ·split at h
  ·exact tell_niln
  ·cases h
 ·cases h
def kNil : Kd Unit := ⟨nilsD, nilA, nilsD_tell, fun _ => rfl⟩
def txG (h : List AO) (a : AV) : Option (List Nat × Option Prop × (Nat × (Nat → TX))) := match a with
 | .ms nl i e o n sz => match hget h i with
   | some oi => match rwD oi.c with
     | some (m, sz', f) => match allB [not nl, Nat.beq e 0, Nat.beq o 0, Nat.beq sz 1, Nat.beq oi.ep 0, not oi.fz, Nat.beq sz' 1] with
       | true => some ([i], some (f = sfn (fun k => sD (f k)) ∧ m = n), (n, fun k => sD (f k)))
       | false => none
     | none => none
   | none => none
 | _ => none
def txO (x : Nat × (Nat → TX)) (_ : Nat → Nat) : List AO := [⟨0, .rw x.1 1 (sfn x.2), false⟩]
def vTx : Vw (Nat × (Nat → TX)) where
 n := 1
 get := txG
 arg x σ := .ms false (σ 0) 0 0 x.1 1
 obj := txO
 len _ _ := rfl
 renA _ _ _ := rfl
 renH _ _ _ := rfl
 ok h a ns C x hg hC := by
  unfold txG at hg
  split at hg
  ·rename_i nl i e o n sz
   split at hg
   ·rename_i oi hi
    split at hg
    ·rename_i m sz' f hf
     split at hg
     ·rename_i hb
      cases hg
      obtain ⟨hg, hm⟩ := hC
      obtain ⟨b1, hb⟩ := allB_cons hb
      obtain ⟨b2, hb⟩ := allB_cons hb
      obtain ⟨b3, hb⟩ := allB_cons hb
      obtain ⟨b4, hb⟩ := allB_cons hb
      obtain ⟨b5, hb⟩ := allB_cons hb
      obtain ⟨b6, hb⟩ := allB_cons hb
      obtain ⟨b8, hb⟩ := allB_cons hb
      obtain rfl := Nat.eq_of_beq_eq_true b2
      obtain rfl := Nat.eq_of_beq_eq_true b3
      obtain rfl := Nat.eq_of_beq_eq_true b4
      subst hm
      obtain rfl := Nat.eq_of_beq_eq_true b8
      obtain ⟨ep, c, fz⟩ := oi
      simp only at b5 b6 hf
      obtain rfl := Nat.eq_of_beq_eq_true b5
      cases fz with
      | true => cases b6
      | false =>
      cases nl with
      | true => cases b1
      | false =>
      obtain rfl := rwD_spec hf
      refine ⟨rfl, fun σ hσ => ?_⟩
      have h0 : i = σ 0 := by have := hσ 0 (by decide); simpa using this
      subst h0
      refine ⟨Tell.refl _, fun j o hj => ?_⟩
      cases j with
      | zero =>
        simp [txO] at hj; subst hj
        rw [← hget_eq]
        exact ⟨_, hi, rfl, rfl, by rw [← hg]; exact TellC.refl _⟩
      | succ j => simp [txO] at hj
     ·cases hg
    ·cases hg
   ·cases hg
  ·cases hg
abbrev TxA := (Nat × (Nat → TX)) × Int × Int × Unit
def vl63 : VL TxA := .cons vTx (.cons (.val kInt) (.cons (.val kInt) .nil))
def e63n : List AV → List AO → ER := evL (consG (valG nilsD) (consG (valG intD) (consG (valG intD) nilG))) (consO 0 valO (consO 0 valO (consO 0 valO nilO))) (fun x => x.2.1 = 0 ∧ x.2.2.1 = 0) (fun _ _ => .tup []) id noMore
def e63o : List AV → List AO → ER := evL (consG txG (consG (valG intD) (consG (valG intD) nilG))) (consO 1 txO (consO 0 valO (consO 0 valO nilO))) (fun x => x.2.1 = 0 ∧ x.2.2.1 = x.1.1 ∧ 1 ≤ x.1.1 ∧ x.1.1 ≤ 12) (fun _ _ => .tup []) (fun x => ((x.1.1, srt x.1.2 x.1.1), x.2)) noMore
def e63 : SpE := ⟨false, orE e63n e63o⟩
def L55 : LI where
 X := Unit
 x0 := ()
 pre _ := False
 inv _ := ([], [])
 mu _ := 0
 ren := true
 peel := true
theorem fn63n : ACalls Tryz.prog 103 [.sl true 0 0 (.agg []) true, .int 0, .int 0] [] (fun r h => r = .tup [] ∧ h = []) := by
 refine o103.runS [(109, e69)] keep103 0 (fun _ _ _ => L55) (own := true) (kn := 0) (.cons ok69 o109.enter .nil) (Nat.le_of_ble_eq_true rfl) rfl (Nat.le_refl _) (fun Γ hsp hkp hk0 hinv κ hκ => ?_)
 dsimp only [keep103] at hkp
 have w1 : w64 (0 + 1) = 1 := rfl
 refine goGaC1 ?_
 refine RUN.peel hk0 hinv rfl rfl (L := L55) rfl rfl rfl (fun κ1 h1 => ?_) (fun x hx => hx.elim)
 refine goGaC1 ?_
 subst hκ
 dsimp only [leafK, res103, go_sem, Nat.succ, Int.reduceToNat, Nat.reduceAdd, Nat.reduceMul, Nat.reduceSub, Int.reduceLT, Int.reduceLE, Int.reduceNeg, UInt64.reduceToNat, UInt32.reduceToNat, UInt8.reduceToNat]
 and_intros <;> rfl
theorem ok63 : SpE.ok Tryz.prog 103 e63 :=
 orE_ok (f1 := false) (f2 := false) (evL_ok (.cons (.val kNil) (.cons (.val kInt) (.cons (.val kInt) .nil))) (fun _ _ => rfl) (fun _ _ => rfl) (fun ⟨_, a, b, _⟩ h => by obtain ⟨(h1 : a = 0), (h2 : b = 0)⟩ := h; subst h1 h2; exact fn63n))
  (evL_ok vl63 (fun _ _ => rfl) (fun _ _ => rfl) (fun ⟨⟨n, g⟩, a, b, _⟩ h => by obtain ⟨(h1 : a = 0), (h2 : b = n), (h3 : 1 ≤ n), (h4 : n ≤ 12)⟩ := h; subst h1 h2; exact fn63 n g ⟨h3, by omega⟩))
theorem fn55 (n : Nat) (g : Nat → TX) (l : Int) (hn : 1 ≤ n ∧ n ≤ 12) : ACalls Tryz.prog 84 [.ms false 0 0 0 n 1, .int 0, .int n, .int l] [⟨0, .rw n 1 (sfn g), false⟩] (fun r h => r = .tup [] ∧ h = [⟨0, .rw n 1 (sfn (srt g n)), false⟩]) := by
 refine o84.runS [(103, e63)] keep84 1 (fun _ _ _ => L55) (own := true) (kn := 1) (.cons ok63 o103.enter .nil) (Nat.le_of_ble_eq_true rfl) rfl (Nat.le_refl _) (fun Γ hsp hkp hk0 hinv κ hκ => ?_)
 dsimp only [keep84] at hkp
 have w1 : w64 ((n : Int) - 0) = n := by rw [w64_in (by omega)]; omega
 refine goGaC3 ?_
 refine RUN.peel hk0 hinv rfl rfl (L := L55) rfl rfl rfl (fun κ1 h1 => ?_) (fun x hx => hx.elim)
 refine goGaC3 ?_
 refine RUN.cond rfl rfl (fun hc => ?_) (fun hc => ?_)
 ·refine goGaC3 ?_
  subst hκ
  dsimp only [leafK, res84, go_sem, Nat.succ, Int.reduceToNat, Nat.reduceAdd, Nat.reduceMul, Nat.reduceSub, Int.reduceLT, Int.reduceLE, Int.reduceNeg, UInt64.reduceToNat, UInt32.reduceToNat, UInt8.reduceToNat]
  and_intros <;> rfl
 ·have := of_decide_eq_false hc
  rw [w1] at this
  omega
theorem fn55n (l : Int) : ACalls Tryz.prog 84 [.sl true 0 0 (.agg []) true, .int 0, .int 0, .int l] [] (fun r h => r = .tup [] ∧ h = []) := by
 refine o84.runS [(103, e63)] keep84 0 (fun _ _ _ => L55) (own := true) (kn := 0) (.cons ok63 o103.enter .nil) (Nat.le_of_ble_eq_true rfl) rfl (Nat.le_refl _) (fun Γ hsp hkp hk0 hinv κ hκ => ?_)
 dsimp only [keep84] at hkp
 have w1 : w64 (0 - 0) = 0 := rfl
 refine goGaC3 ?_
 refine RUN.peel hk0 hinv rfl rfl (L := L55) rfl rfl rfl (fun κ1 h1 => ?_) (fun x hx => hx.elim)
 refine goGaC3 ?_
 subst hκ
 dsimp only [leafK, res84, go_sem, Nat.succ, Int.reduceToNat, Nat.reduceAdd, Nat.reduceMul, Nat.reduceSub, Int.reduceLT, Int.reduceLE, Int.reduceNeg, UInt64.reduceToNat, UInt32.reduceToNat, UInt8.reduceToNat]
 and_intros <;> rfl
abbrev TxB := (Nat × (Nat → TX)) × Int × Int × Int × Unit
def e55n : List AV → List AO → ER := evL (consG (valG nilsD) (consG (valG intD) (consG (valG intD) (consG (valG intD) nilG)))) (consO 0 valO (consO 0 valO (consO 0 valO (consO 0 valO nilO)))) (fun x => x.2.1 = 0 ∧ x.2.2.1 = 0) (fun _ _ => .tup []) id noMore
def e55o : List AV → List AO → ER := evL (consG txG (consG (valG intD) (consG (valG intD) (consG (valG intD) nilG)))) (consO 1 txO (consO 0 valO (consO 0 valO (consO 0 valO nilO)))) (fun x => x.2.1 = 0 ∧ x.2.2.1 = x.1.1 ∧ 1 ≤ x.1.1 ∧ x.1.1 ≤ 12) (fun _ _ => .tup []) (fun x => ((x.1.1, srt x.1.2 x.1.1), x.2)) noMore
def e55 : SpE := ⟨false, orE e55n e55o⟩
theorem ok55 : SpE.ok Tryz.prog 84 e55 :=
 orE_ok (f1 := false) (f2 := false) (evL_ok (.cons (.val kNil) (.cons (.val kInt) (.cons (.val kInt) (.cons (.val kInt) .nil)))) (fun _ _ => rfl) (fun _ _ => rfl) (fun ⟨_, a, b, l, _⟩ h => by obtain ⟨(h1 : a = 0), (h2 : b = 0)⟩ := h; subst h1 h2; exact fn55n l))
  (evL_ok (.cons vTx (.cons (.val kInt) (.cons (.val kInt) (.cons (.val kInt) .nil)))) (fun _ _ => rfl) (fun _ _ => rfl) (fun ⟨⟨n, g⟩, a, b, l, _⟩ h => by obtain ⟨(h1 : a = 0), (h2 : b = n), (h3 : 1 ≤ n), (h4 : n ≤ 12)⟩ := h; subst h1 h2; exact fn55 n g l ⟨h3, by omega⟩))
def u64D : AV → Option UInt64 | .u64 n => some n | _ => none
def kU64' : Kd UInt64 := ⟨u64D, .u64, fun a x h => by cases a <;> simp only [u64D, reduceCtorEq, Option.some.injEq] at h; subst h; exact Tell.refl _, fun _ => rfl⟩
theorem fn72 (x : UInt64) (hx : x.toNat < 256) : ACalls Tryz.prog 112 [.u64 x] [] (fun r h => r = .int (tab x.toNat) ∧ h = []) := by
 refine o112.runS [] keep112 0 (fun _ _ _ => L55) (own := false) (kn := 0) .nil (Nat.le_of_ble_eq_true rfl) rfl (Nat.le_refl _) (fun Γ hsp hkp hk0 hinv κ hκ => ?_)
 dsimp only [keep112] at hkp
 have ht := tab_le hx
 refine goGaC4 ?_
 refine RUN.cond rfl rfl (fun hc => absurd (of_decide_eq_true hc) (by omega)) (fun hc => ?_)
 refine goGaC4 ?_
 refine RUN.cond rfl rfl (fun hc => absurd (of_decide_eq_true hc) (by omega)) (fun hc => ?_)
 refine goGaC4 ?_
 refine RUN.cond rfl rfl (fun hc => absurd (of_decide_eq_true hc) (by omega)) (fun hc => ?_)
 refine goGaC4 ?_
 have key := len8_fin (l := len8tab) rfl (c := 0) (i := UInt8.ofNat x.toNat) (r := (tab x.toNat : Int)) (u8_nat (m := x.toNat) rfl hx) hx 0 ⟨rfl, by omega⟩ (by omega)
 refine ⟨key.1, ?_⟩
 refine goGaC4 ?_
 subst hκ
 dsimp only [leafK, res112, go_sem, Nat.succ, Int.reduceToNat, Nat.reduceAdd, Nat.reduceMul, Nat.reduceSub, Int.reduceLT, Int.reduceLE, Int.reduceNeg, UInt64.reduceToNat, UInt32.reduceToNat, UInt8.reduceToNat]
 exact ⟨key.2.1, rfl⟩
def e72 : SpE := ⟨true, ev1 u64D (fun x => some (x.toNat < 256)) fun x => .int (tab x.toNat)⟩
theorem ok72 : SpE.ok Tryz.prog 112 e72 := ev1_ok kU64' (fun _ => rfl) (fun x h => fn72 x h)
theorem fn56 (x : UInt64) (hx : x.toNat < 256) : ACalls Tryz.prog 85 [.u64 x] [] (fun r h => r = .int (tab x.toNat) ∧ h = []) := by
 refine o85.runS [(112, e72)] keep85 0 (fun _ _ _ => L55) (own := false) (kn := 0) (.cons ok72 o112.enter .nil) (Nat.le_of_ble_eq_true rfl) rfl (Nat.le_refl _) (fun Γ hsp hkp hk0 hinv κ hκ => ?_)
 dsimp only [keep85] at hkp
 (repeat (first | ((first | refine RUN.sreg hsp hkp rfl (fun κ__ h__ => ?_) | refine RUN.reg hsp hkp rfl (fun κ__ h__ => ?_)); dsimp only [e72, u64D, go_sem, Nat.succ, Int.reduceToNat, Nat.reduceAdd, Nat.reduceMul, Nat.reduceSub, Int.reduceLT, Int.reduceLE, Int.reduceNeg, UInt64.reduceToNat, UInt32.reduceToNat, UInt8.reduceToNat]; subst h__) | refine RUN.block rfl ?_ | refine RUN.skip rfl ?_ | refine RUN.ret rfl ?_ | (refine RUN.exit rfl ?_; dsimp only [xfind, xfB, Nat.beq]) | (refine RUN.seq rfl (fun κ__ h__ => ?_); subst h__) | (refine RUN.cond rfl (p := true) rfl (fun _ => ?_) (fun h__ => by cases h__)) | (refine RUN.cond rfl (p := false) rfl (fun h__ => by cases h__) (fun _ => ?_)) | refine ⟨by first | trivial | omega | (and_intros <;> first | trivial | rfl | omega) | rfl, ?_⟩))
 subst hκ
 dsimp only [leafK, res85, go_sem, Nat.succ, Int.reduceToNat, Nat.reduceAdd, Nat.reduceMul, Nat.reduceSub, Int.reduceLT, Int.reduceLE, Int.reduceNeg, UInt64.reduceToNat, UInt32.reduceToNat, UInt8.reduceToNat]
 and_intros <;> rfl
def e56 : SpE := ⟨true, ev1 u64D (fun x => some (x.toNat < 256)) fun x => .int (tab x.toNat)⟩
theorem ok56 : SpE.ok Tryz.prog 85 e56 := ev1_ok kU64' (fun _ => rfl) (fun x h => fn56 x h)
theorem fn36 (n : Nat) (g : Nat → TX) (hn : 1 ≤ n ∧ n ≤ 12) : ACalls Tryz.prog 52 [.ms false 0 0 0 n 1] [⟨0, .rw n 1 (sfn g), false⟩] (fun r h => r = .tup [] ∧ h = [⟨0, .rw n 1 (sfn (srt g n)), false⟩]) := by
 refine o52.runS [(85, e56), (84, e55)] keep52 1 (fun _ _ _ => L55) (own := true) (kn := 1) (.cons ok56 o85.enter (.cons ok55 o84.enter .nil)) (Nat.le_of_ble_eq_true rfl) rfl (Nat.le_refl _) (fun Γ hsp hkp hk0 hinv κ hκ => ?_)
 dsimp only [keep52] at hkp
 refine goGaC5 ?_
 refine ⟨by have := u64_ofInt (n : Int); omega, ⟨⟨rfl, rfl⟩, by and_intros <;> first | rfl | omega⟩, ?_⟩
 subst hκ
 dsimp only [leafK, res52, go_sem, Nat.succ, Int.reduceToNat, Nat.reduceAdd, Nat.reduceMul, Nat.reduceSub, Int.reduceLT, Int.reduceLE, Int.reduceNeg, UInt64.reduceToNat, UInt32.reduceToNat, UInt8.reduceToNat]
 and_intros <;> rfl
theorem fn36n : ACalls Tryz.prog 52 [.sl true 0 0 (.agg []) true] [] (fun r h => r = .tup [] ∧ h = []) := by
 refine o52.runS [(85, e56), (84, e55)] keep52 0 (fun _ _ _ => L55) (own := true) (kn := 0) (.cons ok56 o85.enter (.cons ok55 o84.enter .nil)) (Nat.le_of_ble_eq_true rfl) rfl (Nat.le_refl _) (fun Γ hsp hkp hk0 hinv κ hκ => ?_)
 dsimp only [keep52] at hkp
 refine goGaC5 ?_
 subst hκ
 dsimp only [leafK, res52, go_sem, Nat.succ, Int.reduceToNat, Nat.reduceAdd, Nat.reduceMul, Nat.reduceSub, Int.reduceLT, Int.reduceLE, Int.reduceNeg, UInt64.reduceToNat, UInt32.reduceToNat, UInt8.reduceToNat]
 and_intros <;> rfl
def e36n : List AV → List AO → ER := evL (consG (valG nilsD) nilG) (consO 0 valO nilO) (fun _ => True) (fun _ _ => .tup []) id noMore
def e36o : List AV → List AO → ER := evL (consG txG nilG) (consO 1 txO nilO) (fun x => 1 ≤ x.1.1 ∧ x.1.1 ≤ 12) (fun _ _ => .tup []) (fun x => ((x.1.1, srt x.1.2 x.1.1), x.2)) noMore
def e36 : SpE := ⟨false, orE e36n e36o⟩
theorem ok36 : SpE.ok Tryz.prog 52 e36 :=
 orE_ok (f1 := false) (f2 := false) (evL_ok (.cons (.val kNil) .nil) (fun _ _ => rfl) (fun _ _ => rfl) (fun _ _ => fn36n))
  (evL_ok (.cons vTx .nil) (fun _ _ => rfl) (fun _ _ => rfl) (fun ⟨⟨n, g⟩, _⟩ h => fn36 n g h))
def txA (x : Nat × (Nat → TX)) : AV := .sl (Nat.beq x.1 0) x.1 1 (.rw x.1 1 (sfn x.2)) false
theorem fn37 (n : Nat) (g : Nat → TX) (hn : n ≤ 1000) : ACalls Tryz.prog 53 [txA (n, g)] [] (fun r h => r = txA (n, g) ∧ h = []) := by
 cases n with
 | zero =>
   refine ACalls.tell (K := fun r h => r = .sl true 0 0 (.agg []) true ∧ h = []) ?_ ?_
   ·refine o53.runS [] keep53 0 (fun _ _ _ => L55) (own := false) (kn := 0) .nil (Nat.le_of_ble_eq_true rfl) rfl (Nat.le_refl _) (fun Γ hsp hkp hk0 hinv κ hκ => ?_)
    dsimp only [keep53] at hkp
    dsimp only [txA]
    refine goGaC4 ?_
    subst hκ
    dsimp only [leafK, res53, go_sem, Nat.succ, Int.reduceToNat, Nat.reduceAdd, Nat.reduceMul, Nat.reduceSub, Int.reduceLT, Int.reduceLE, Int.reduceNeg, UInt64.reduceToNat, UInt32.reduceToNat, UInt8.reduceToNat]
    and_intros <;> rfl
   ·rintro r h ⟨rfl, rfl⟩
    exact ⟨_, _, ⟨rfl, rfl⟩, fun E v r => by
     simp only [txA, Nat.beq, rel, if_true] at r ⊢
     exact ⟨r.1, trivial, by simp [relC, flatF, relFL, ones]⟩, TellH.refl _⟩
 | succ n =>
   refine o53.runS [] keep53 0 (fun _ _ _ => L55) (own := false) (kn := 0) .nil (Nat.le_of_ble_eq_true rfl) rfl (Nat.le_refl _) (fun Γ hsp hkp hk0 hinv κ hκ => ?_)
   dsimp only [keep53] at hkp
   dsimp only [txA]
   refine goGaC4 ?_
   subst hκ
   dsimp only [leafK, res53, go_sem, Nat.succ, Int.reduceToNat, Nat.reduceAdd, Nat.reduceMul, Nat.reduceSub, Int.reduceLT, Int.reduceLE, Int.reduceNeg, UInt64.reduceToNat, UInt32.reduceToNat, UInt8.reduceToNat]
   and_intros <;> first | rfl | omega
open Go.Proofs
set_option maxRecDepth 100000

def txvG (_ : List AO) (a : AV) : Option (List Nat × Option Prop × (Nat × (Nat → TX))) := match a with
 | .sl nl n sz c fl => match rwD c with
   | some (m, sz', f) => match allB [Nat.beq sz 1, Nat.beq sz' 1] with
     | true => some ([], some (f = sfn (fun k => sD (f k)) ∧ m = n ∧ nl = Nat.beq n 0), (n, fun k => sD (f k)))
     | false => none
   | none => none
 | _ => none
def vTxv : Vw (Nat × (Nat → TX)) where
 n := 0
 get := txvG
 arg x _ := txA x
 obj := valO
 len _ _ := rfl
 renA _ _ _ := rfl
 renH _ _ _ := rfl
 ok h a ns C x hg hC := by
  unfold txvG at hg
  split at hg
  ·rename_i nl n sz c fl
   split at hg
   ·rename_i m sz' f hf
    split at hg
    ·rename_i hb
     cases hg
     obtain ⟨hg, hm, hn⟩ := hC
     obtain ⟨b1, hb⟩ := allB_cons hb
     obtain ⟨b2, hb⟩ := allB_cons hb
     obtain rfl := Nat.eq_of_beq_eq_true b1
     obtain rfl := Nat.eq_of_beq_eq_true b2
     subst hm hn
     obtain rfl := rwD_spec hf
     refine ⟨rfl, fun σ _ => ⟨?_, fun j o hj => by simp [valO] at hj⟩⟩
     rw [hg]
     exact fun E v r => sl_full r
    ·cases hg
   ·cases hg
  ·cases hg
def e37 : SpE := ⟨true, evL (consG txvG nilG) (consO 0 valO nilO) (fun x => x.1.1 ≤ 1000) (fun x _ => txA x.1) id noMore⟩
theorem ok37 : SpE.ok Tryz.prog 53 e37 := evL_ok (.cons vTxv .nil) (fun _ _ => rfl) (fun _ _ => rfl) (fun ⟨⟨n, g⟩, _⟩ h => fn37 n g h)

def Vt.nmTo (s : Vt) : Nat → List TX
 | 0 => []
 | k + 1 => if s.has k then s.nmTo k ++ [(s.rcd k).name] else s.nmTo k
theorem nmTo_len (s : Vt) : ∀ k, (s.nmTo k).length ≤ k
 | 0 => Nat.le_refl _
 | k + 1 => by
   have := nmTo_len s k
   rw [Vt.nmTo]
   split
   ·rw [List.length_append]; simp; omega
   ·omega
def lstF (l : List TX) (i : Nat) : TX := l.getD i []
def txRow (l : List TX) : AO := ⟨0, .rw l.length 1 (sfn (lstF l)), false⟩
theorem tellC_nm {L : List TX} {x : TX} {m : Nat} (hm : m = L.length) : TellC (.rw (m + 1) 1 (snocF (sfn (lstF L)) m [.s x])) (.rw (L.length + 1) 1 (sfn (lstF (L ++ [x])))) := by
 refine tellC_rw (by rw [hm]) fun i hi => ?_
 subst hm
 rcases Nat.lt_or_ge i L.length with h | h
 ·rw [snocF_lt h]
  simp only [sfn, lstF, List.getD_eq_getElem?_getD, List.getElem?_append_left h]
 ·obtain rfl : i = L.length := by omega
  rw [snocF_eq]
  simp [sfn, lstF]
def L21 (s : Vt) (a : AV) : LI where
 X := Nat
 x0 := 0
 pre k := k ≤ 8
 inv k := ([(0, a), (1, .ptr 3 0 0), (8, .int k), (32, .bool false), (36, .ptr 2 0 0)], [s.o1 1, s.o2, ⟨0, .agg [.ms (Nat.beq (s.nmTo k).length 0) 4 0 0 (s.nmTo k).length 1], false⟩, ⟨0, .agg [.ptr 0 0 0], false⟩, txRow (s.nmTo k)])
 mu k := 8 - k
 ren := true
def G21 (s : Vt) : G := { GK 2 keep20 [(54, e31), (51, e35), (83, e54), (52, e36), (53, e37)] with its := [(82, ⟨c82, N82, keep82⟩)], iinv := fun _ t _ => L21 s (look t 0), tn := 19 }
def Vt.names (s : Vt) : Nat × (Nat → TX) := ((s.nmTo 8).length, srt (lstF (s.nmTo 8)) (s.nmTo 8).length)
set_option maxHeartbeats 4000000 in
theorem fn21 (s : Vt) : ACalls Tryz.prog 20 [.ptr 0 0 0] [s.o1 1, s.o2] (fun r h => r = txA s.names ∧ h = [s.o1 1, s.o2]) := by
 refine o20.runI (Γ := G21 s) (own := true) (kn := 2) (.cons ok31 o54.enter (.cons ok35 o51.enter (.cons ok54 o83.enter (.cons ok36 o52.enter (.cons ok37 o53.enter .nil))))) (Nat.le_of_ble_eq_true rfl) rfl (Nat.le_refl _) (Nat.le_refl _) its53 rfl (fun κ hκ => ?_)
 have hsp : (G21 s).sp = [(54, e31), (51, e35), (83, e54), (52, e36), (53, e37)] := rfl
 have hkp : (G21 s).keep = [0, 2, 3, 5, 7, 9] := rfl
 (repeat (first | ((first | refine RUN.sreg hsp hkp rfl (fun κ__ h__ => ?_) | refine RUN.reg hsp hkp rfl (fun κ__ h__ => ?_)); dsimp only [e35, ev35, vtD, rwD, Vt.o1, Vt.o2, vR, allB, not, go_sem, Nat.succ, Int.reduceToNat, Nat.reduceAdd, Nat.reduceMul, Nat.reduceSub, Int.reduceLT, Int.reduceLE, Int.reduceNeg, UInt64.reduceToNat, UInt32.reduceToNat, UInt8.reduceToNat]; subst h__) | refine RUN.block rfl ?_ | refine RUN.skip rfl ?_ | refine RUN.ret rfl ?_ | (refine RUN.exit rfl ?_; dsimp only [xfind, xfB, Nat.beq]) | (refine RUN.seq rfl (fun κ__ h__ => ?_); subst h__) | (refine RUN.cond rfl (p := true) rfl (fun _ => ?_) (fun h__ => by cases h__)) | (refine RUN.cond rfl (p := false) rfl (fun h__ => by cases h__) (fun _ => ?_)) | refine ⟨by first | trivial | omega | (and_intros <;> first | trivial | rfl | omega) | rfl, ?_⟩))
 refine RUN.rangeF rfl ?_
 generalize hk2 : RUN (G21 s) (CC.seq _ _) κ [] κ = κ2
 dsimp only [run, go_sem, Nat.succ, Int.reduceToNat, Nat.reduceAdd, Nat.reduceMul, Nat.reduceSub, Int.reduceLT, Int.reduceLE, Int.reduceNeg, UInt64.reduceToNat, UInt32.reduceToNat, UInt8.reduceToNat]
 refine ⟨by trivial, fun l => ?_⟩
 dsimp only [c82, N82, keep82, keep20, G21, L21, txRow, Vt.o1, Vt.o2, vR, e31, e35, ev35, e54, evV, vtD, rwD, Cnt.C, Rec.C, allB, not, By.eta, Ce.eta, Vt.eta, Rec.eta, Num.eta, toCe_vf, go_sem, Nat.succ, Int.reduceToNat, Nat.reduceAdd, Nat.reduceMul, Nat.reduceSub, Int.reduceLT, Int.reduceLE, Int.reduceNeg, UInt64.reduceToNat, UInt32.reduceToNat, UInt8.reduceToNat]
 refine ⟨⟨⟨[some 0, some 1, some 2, some 3, none], rfl, ?_, by first | rfl | trivial, ?_⟩, Nat.zero_le _⟩, fun k hk => ?_⟩
 ·exact rn
 ·dsimp only [sameH, sameO, nget, hget]
  and_intros <;> first | trivial | rfl | exact .inr ⟨rfl, rfl⟩ | exact .inl rfl | exact SameC.agg (by dsimp only [SameL]; and_intros <;> first | trivial | exact .ms rfl rfl rfl rfl rfl | exact .nil | exact .ptr rfl rfl rfl rfl rfl | exact .refl rfl) | exact .refl rfl
 ·refine fork_intro (fun h => ?_) (fun h => ?_)
  ·have h := of_decide_eq_true h
   have hlen := cntTo_len s.c (k : Int) 2
   have hH : s.has k = (readW (cntTo s.c (k : Int) 2).2.b).isSome := rfl
   have hN : (s.rcd k).name = (orZR (readW (cntTo s.c (k : Int) 2).2.b)).name := rfl
   have hs : s.nmTo (k + 1) = if s.has k then s.nmTo k ++ [(s.rcd k).name] else s.nmTo k := rfl
   have hk1 : w64 ((k : Int) + 1) = ((k + 1 : Nat) : Int) := by rw [w64_in (by omega)]; omega
   have hl := nmTo_len s k
   rw [hk1]
   generalize (cntTo s.c (k : Int) 2).2 = c at hlen hH hN ⊢
   generalize orZR (readW c.b) = R at hN ⊢
   generalize (readW c.b).isSome = H at hH ⊢
   generalize s.nmTo k = L at hs hl ⊢
   refine ⟨⟨rfl, by omega, by omega⟩, rfl, by omega, rfl, fork_intro (fun h1 => ⟨rfl, rfl, ?_⟩) (fun h1 => ?_)⟩
   ·have e : s.nmTo (k + 1) = L ++ [R.name] := by rw [hs, hH, h1, hN]; rfl
    have e0 : Nat.beq (L ++ [R.name]).length 0 = false := by simp [Nat.beq]
    have el : (L ++ [R.name]).length = L.length + 1 := by simp
    cases hb : Nat.beq L.length 0
    ·dsimp only
     refine ⟨⟨by omega, by omega⟩, k + 1, by omega, by omega, [some 0, some 1, some 2, some 3, some 4], rfl, ?_, by first | rfl | trivial, ?_⟩
     ·exact rn
     ·rw [e, e0, el]
      dsimp only [sameH, sameO, nget, hget]
      and_intros <;> first | trivial | rfl | exact .inr ⟨rfl, rfl⟩ | exact .inl rfl | exact SameC.agg (by dsimp only [SameL]; and_intros <;> first | trivial | exact .ms rfl rfl rfl rfl rfl | exact .nil | exact .ptr rfl rfl rfl rfl rfl | exact .refl rfl) | exact .refl rfl | exact .tell (tellC_nm rfl) rfl
    ·dsimp only
     have h0 := Nat.eq_of_beq_eq_true hb
     refine ⟨⟨by omega, by omega⟩, k + 1, by omega, by omega, [some 0, some 1, some 2, some 3, some 4], rfl, ?_, by first | rfl | trivial, ?_⟩
     ·exact rn
     ·rw [e, e0, el]
      dsimp only [sameH, sameO, nget, hget]
      and_intros <;> first | trivial | rfl | exact .inr ⟨rfl, rfl⟩ | exact .inl rfl | exact SameC.agg (by dsimp only [SameL]; and_intros <;> first | trivial | exact .ms rfl rfl rfl rfl rfl | exact .nil | exact .ptr rfl rfl rfl rfl rfl | exact .refl rfl) | exact .refl rfl | exact .tell (tellC_nm h0.symm) rfl
   ·have e : s.nmTo (k + 1) = L := by rw [hs, hH, h1]; rfl
    refine ⟨k + 1, by omega, by omega, [some 0, some 1, some 2, some 3, some 4], rfl, ?_, by first | rfl | trivial, ?_⟩
    ·exact rn
    ·rw [e]
     exact rn
  ·have h := of_decide_eq_false h
   have : k = 8 := by omega
   subst this
   have hl := nmTo_len s 8
   rw [← hk2]
   have en : s.names = ((s.nmTo 8).length, srt (lstF (s.nmTo 8)) (s.nmTo 8).length) := rfl
   rw [en] at hκ
   clear en
   generalize s.nmTo 8 = L at hl hκ ⊢
   cases L with
   | nil =>
     dsimp only [List.length_nil]
     refine goGaC6 ?_
     subst hκ
     dsimp only [leafK, res20, txA, Vt.o1, Vt.o2, vR, G21, go_sem, Nat.succ, Int.reduceToNat, Nat.reduceAdd, Nat.reduceMul, Nat.reduceSub, Int.reduceLT, Int.reduceLE, Int.reduceNeg, UInt64.reduceToNat, UInt32.reduceToNat, UInt8.reduceToNat]
     and_intros <;> first | rfl | trivial
   | cons x L =>
     have e : (x :: L).length = L.length + 1 := rfl
     rw [e] at hl hκ ⊢
     generalize lstF (x :: L) = g at hκ ⊢
     generalize L.length = n at hl hκ ⊢
     refine goGaC6 ?_
     subst hκ
     dsimp only [leafK, res20, txA, Vt.o1, Vt.o2, vR, G21, go_sem, Nat.succ, Int.reduceToNat, Nat.reduceAdd, Nat.reduceMul, Nat.reduceSub, Int.reduceLT, Int.reduceLE, Int.reduceNeg, UInt64.reduceToNat, UInt32.reduceToNat, UInt8.reduceToNat]
     and_intros <;> first | rfl | trivial | exact Nat.le_of_ble_eq_true rfl | omega
def vtG (h : List AO) (a : AV) : Option (List Nat × Option Prop × Vt) := match a with
 | .ptr i e o => match hget h i with
   | some oi => match vtD oi.c with
     | some (nl, j, e', o', n, sz, left, dead) => match hget h j with
       | some oj => match rwD oj.c with
         | some (m, sz', f) => match allB [Nat.beq e 0, Nat.beq o 0, Nat.beq oi.ep 0, not oi.fz, not nl, Nat.beq e' 0, Nat.beq o' 0, Nat.beq n 18, Nat.beq sz 3, Nat.beq oj.ep 0, not oj.fz, Nat.beq m 18, Nat.beq sz' 3] with
           | true => some ([i, j], some (f = vf (fun k => toCe (f k))), ⟨fun k => toCe (f k), left, dead⟩)
           | false => none
         | none => none
       | none => none
     | none => none
   | none => none
 | _ => none
def vtO (s : Vt) (σ : Nat → Nat) : List AO := [s.o1 (σ 1), s.o2]
def vVt : Vw Vt where
 n := 2
 get := vtG
 arg _ σ := .ptr (σ 0) 0 0
 obj := vtO
 len _ _ := rfl
 renA _ _ _ := rfl
 renH _ _ _ := rfl
 ok h a ns C x hg hC := by
  unfold vtG at hg
  split at hg
  ·rename_i i e o
   split at hg
   ·rename_i oi hi
    split at hg
    ·rename_i nl j e' o' n sz left dead hv
     split at hg
     ·rename_i oj hj
      split at hg
      ·rename_i m sz' f hf
       split at hg
       ·rename_i hb
        cases hg
        have hC : f = vf (fun k => toCe (f k)) := hC
        obtain ⟨b1, hb⟩ := allB_cons hb
        obtain ⟨b2, hb⟩ := allB_cons hb
        obtain ⟨b3, hb⟩ := allB_cons hb
        obtain ⟨b4, hb⟩ := allB_cons hb
        obtain ⟨b5, hb⟩ := allB_cons hb
        obtain ⟨b6, hb⟩ := allB_cons hb
        obtain ⟨b7, hb⟩ := allB_cons hb
        obtain ⟨b8, hb⟩ := allB_cons hb
        obtain ⟨b9, hb⟩ := allB_cons hb
        obtain ⟨b10, hb⟩ := allB_cons hb
        obtain ⟨b11, hb⟩ := allB_cons hb
        obtain ⟨b12, hb⟩ := allB_cons hb
        obtain ⟨b13, hb⟩ := allB_cons hb
        obtain rfl := Nat.eq_of_beq_eq_true b1
        obtain rfl := Nat.eq_of_beq_eq_true b2
        obtain rfl := Nat.eq_of_beq_eq_true b6
        obtain rfl := Nat.eq_of_beq_eq_true b7
        obtain rfl := Nat.eq_of_beq_eq_true b8
        obtain rfl := Nat.eq_of_beq_eq_true b9
        obtain rfl := Nat.eq_of_beq_eq_true b12
        obtain rfl := Nat.eq_of_beq_eq_true b13
        obtain ⟨ep, c, fz⟩ := oi
        obtain ⟨ep', c', fz'⟩ := oj
        simp only at b3 b4 b10 b11 hv hf
        obtain rfl := Nat.eq_of_beq_eq_true b3
        obtain rfl := Nat.eq_of_beq_eq_true b10
        cases fz with
        | true => cases b4
        | false =>
        cases nl with
        | true => cases b5
        | false =>
        cases fz' with
        | true => cases b11
        | false =>
        obtain rfl := vtD_spec hv
        obtain rfl := rwD_spec hf
        refine ⟨rfl, fun σ hσ => ?_⟩
        have h0 : i = σ 0 := by have := hσ 0 (by decide); simpa using this
        have h1 : j = σ 1 := by have := hσ 1 (by decide); simpa using this
        subst h0 h1
        refine ⟨Tell.refl _, fun k o hk => ?_⟩
        match k, hk with
        | 0, hk =>
          simp [vtO] at hk; subst hk
          rw [← hget_eq]
          exact ⟨_, hi, rfl, rfl, TellC.refl _⟩
        | 1, hk =>
          simp [vtO] at hk; subst hk
          rw [← hget_eq]
          exact ⟨_, hj, rfl, rfl, by rw [hC]; exact TellC.refl _⟩
        | k + 2, hk => simp [vtO] at hk
       ·cases hg
      ·cases hg
     ·cases hg
    ·cases hg
   ·cases hg
  ·cases hg
def e21 : SpE := ⟨false, evL (consG vtG nilG) (consO 2 vtO nilO) (fun _ => True) (fun x _ => txA x.1.names) id noMore⟩
theorem ok21 : SpE.ok Tryz.prog 20 e21 := evL_ok (.cons vVt .nil) (fun _ _ => rfl) (fun _ _ => rfl) (fun ⟨s, _⟩ _ => fn21 s)
open Go.Proofs
set_option maxRecDepth 100000

theorem fn50z : ACalls Tryz.prog 88 [.sl true 0 0 (.agg []) true, .int 0] [] (fun r h => r = .sl true 0 0 (.agg []) true ∧ h = []) := by
 refine o88.runS [] keep88 0 (fun _ _ _ => L55) (own := true) (kn := 0) .nil (Nat.le_of_ble_eq_true rfl) rfl (Nat.le_refl _) (fun Γ hsp hkp hk0 hinv κ hκ => ?_)
 dsimp only [keep88] at hkp
 refine goGaC4 ?_
 subst hκ
 dsimp only [leafK, res88, go_sem, Nat.succ, Int.reduceToNat, Nat.reduceAdd, Nat.reduceMul, Nat.reduceSub, Int.reduceLT, Int.reduceLE, Int.reduceNeg, UInt64.reduceToNat, UInt32.reduceToNat, UInt8.reduceToNat]
 and_intros <;> first | rfl | trivial | exact Nat.le_of_ble_eq_true rfl | omega
def e50z : List AV → List AO → ER := evL (consG (valG nilsD) (consG (valG intD) nilG)) (consO 0 valO (consO 0 valO nilO)) (fun x => x.2.1 = 0) (fun _ _ => .sl true 0 0 (.agg []) true) id noMore
theorem ok50z : SpE.ok Tryz.prog 88 ⟨false, e50z⟩ := evL_ok (.cons (.val kNil) (.cons (.val kInt) .nil)) (fun _ _ => rfl) (fun _ _ => rfl) (fun ⟨_, n, _⟩ h => by obtain rfl : n = 0 := h; exact fn50z)
theorem cat_part (ps : List By) {k n : Nat} (hk : k < n) : (ps.getD k ⟨true, []⟩).l.length ≤ (catTo ps n).length := by
 have := catTo_le ps (k + 1) n hk
 have e : (catTo ps (k + 1)).length = (catTo ps k).length + (ps.getD k ⟨true, []⟩).l.length := by simp [catTo]
 omega
def L30z (ps : List By) : LI where
 X := Nat
 x0 := 0
 pre k := k ≤ ps.length
 inv k := ([(6, .sl true 0 0 (.agg []) true), (25, partsA ps), (26, .int ps.length), (27, .int k)], [])
 mu k := ps.length - k
 ren := true
theorem fn30z (ps : List By) (h0 : (catB ps).length = 0) (hb : ps.length ≤ 1000000) : ACalls Tryz.prog 58 [partsA ps] [] (fun a h => a = .sl true 0 0 (.agg []) true ∧ h = []) := by
 refine o58.runS [(88, ⟨false, e50z⟩)] keep58 0 (fun i _ _ => li2 (L30a ps) (L30z ps) i) (own := true) (kn := 0) (.cons ok50z o88.enter .nil) (Nat.le_of_ble_eq_true rfl) rfl (Nat.le_refl _) (fun Γ hsp hkp hk0 hinv κ hκ => ?_)
 dsimp only [keep58] at hkp
 dsimp only [partsA]
 refine goGaC7 ?_
 refine RUN.loop hk0 hinv rfl rfl (L := L30a ps) rfl rfl rfl ?_ ?_ (fun (k : Nat) (hk : k ≤ ps.length) κ1 h1 => ?_)
 ·dsimp only [L30a, fits, partsA]
  and_intros <;> first | rfl | trivial
 ·exact Nat.zero_le _
 ·dsimp only [L30a, partsA]
  refine goGaC7 ?_
  have hc : (catTo ps k).length ≤ (catB ps).length := catTo_le ps k _ hk
  refine RUN.cond rfl rfl (fun h => ?_) (fun h => ?_)
  ·have h := of_decide_eq_true h
   have hp : (ps.getD k ⟨true, []⟩).l.length ≤ (catB ps).length := cat_part ps (show k < ps.length by omega)
   have hc1 : (catTo ps (k + 1)).length ≤ (catB ps).length := catTo_le ps (k + 1) _ (by omega)
   refine goGaC7 ?_
   have e1 : w64 (((catTo ps k).length : Int) + ((ps.getD k ⟨true, []⟩).l.length : Int)) = ((catTo ps (k + 1)).length : Int) := by rw [w64_in (by omega)]; omega
   rw [e1]
   refine RUN.cond rfl rfl (fun h => absurd (of_decide_eq_true h) (by omega)) (fun h => ?_)
   refine goGaC7 ?_
   rw [w64_in (n := (k : Int) + 1) (by omega)]
   subst h1
   dsimp only [loopK, fits, L30a, partsA]
   refine ⟨k + 1, by omega, by omega, ?_⟩
   and_intros <;> first | rfl | trivial
  ·have h := of_decide_eq_false h
   have hn : k = ps.length := by omega
   have hz : (catTo ps k).length = 0 := by rw [hn]; exact h0
   rw [hz]
   refine goGaC7 ?_
   refine RUN.loop hk0 hinv rfl rfl (L := L30z ps) rfl rfl rfl ?_ ?_ (fun (j : Nat) (hj : j ≤ ps.length) κ2 h2 => ?_)
   ·dsimp only [L30z, fits, partsA]
    refine ⟨[], rfl, ?_, by first | rfl | trivial, ?_⟩
    ·exact rn
    ·exact rn
   ·exact Nat.zero_le _
   dsimp only [L30z, partsA]
   refine goGaC7 ?_
   refine RUN.cond rfl rfl (fun h => ?_) (fun h => ?_)
   ·have h := of_decide_eq_true h
    have hp : (ps.getD j ⟨true, []⟩).l.length ≤ (catB ps).length := cat_part ps (show j < ps.length by omega)
    refine goGaC7 ?_
    rw [w64_in (n := (j : Int) + 1) (by omega)]
    have hp0 : (ps.getD j ⟨true, []⟩).l.length = 0 := by omega
    rw [hp0]
    subst h2
    dsimp only [loopK, fits, L30z, partsA]
    refine ⟨j + 1, by omega, by omega, [], rfl, ?_, by first | rfl | trivial, ?_⟩
    ·dsimp only [sameS, look, lookB, Nat.beq]
     and_intros <;> first | trivial | exact .refl rfl | exact .tell tell_nilm rfl
    ·exact rn
   ·refine goGaC7 ?_
    subst hκ
    dsimp only [leafK, res58, go_sem, Nat.succ, Int.reduceToNat, Nat.reduceAdd, Nat.reduceMul, Nat.reduceSub, Int.reduceLT, Int.reduceLE, Int.reduceNeg, UInt64.reduceToNat, UInt32.reduceToNat, UInt8.reduceToNat]
    and_intros <;> first | rfl | trivial | exact Nat.le_of_ble_eq_true rfl | omega
def catY (ps : List By) : By := ⟨Nat.beq (catB ps).length 0, catB ps⟩
theorem fn30v (ps : List By) (hb : (catB ps).length ≤ 1099511627776 ∧ ps.length ≤ 1000000) : ACalls Tryz.prog 58 [partsA ps] [] (fun a h => a = (catY ps).A ∧ h = []) := by
 rcases Nat.eq_zero_or_pos (catB ps).length with h0 | h0
 ·refine (fn30z ps h0 hb.2).tell ?_
  rintro r h ⟨rfl, rfl⟩
  have e : catB ps = [] := List.eq_nil_of_length_eq_zero h0
  refine ⟨_, _, ⟨rfl, rfl⟩, fun E v r => ?_, TellH.refl _⟩
  simp only [catY, e, By.A, List.length_nil, Nat.beq, rel, if_true] at r ⊢
  exact ⟨r.1, trivial, by simp [relC]⟩
 ·refine (fn30o ps h0 hb).freeze ?_
  rintro r h ⟨rfl, rfl⟩
  have e : catY ps = ⟨false, catB ps⟩ := by
   unfold catY
   cases hb : Nat.beq (catB ps).length 0 with
   | false => rfl
   | true => have := Nat.eq_of_beq_eq_true hb; omega
  refine ⟨_, _, _, 0, rfl, ?_, Nat.le_refl _, Nat.zero_le _, rfl, rfl, ?_, rfl⟩
  ·show 0 + mulz (catB ps).length 1 ≤ _
   simp [mulz]
  ·rw [e]
   show AV.sl false (catB ps).length 1 (.ab (((catB ps).drop 0).take (mulz (catB ps).length 1))) false = _
   simp [mulz, By.A]
def e30v : SpE := ⟨true, ev1 partsD (fun ps => some ((catB ps).length ≤ 1099511627776 ∧ ps.length ≤ 1000000)) fun ps => (catY ps).A⟩
theorem ok30v : SpE.ok Tryz.prog 58 e30v := ev1_ok kParts (fun _ => rfl) (fun ps h => fn30v ps h)

structure IntL where
 nil : Bool
 l : List Int
def IntL.A (x : IntL) : AV := .sl x.nil x.l.length 1 (.ai x.l) false
def intlD : AV → Option IntL
 | .sl nl n sz (.ai l) fl => match Nat.beq sz 1 with | true => some ⟨nl, l⟩ | false => none
 | .sl true n sz (.agg []) fl => some ⟨true, []⟩
 | _ => none
theorem intlD_tell (a : AV) (b : IntL) (h : intlD a = some b) : Tell a b.A := by
 unfold intlD at h
 split at h
 ·rename_i nl n sz l fl
  split at h
  ·rename_i hz
   cases h
   obtain rfl := Nat.eq_of_beq_eq_true hz
   intro E v r
   obtain ⟨e, _⟩ := sl_ai r
   subst e
   exact sl_full r
  ·cases h
 ·cases h
  exact fun E v r => sl_nil (by simp [relC]) r
 ·cases h
def kIntL : Kd IntL := ⟨intlD, IntL.A, intlD_tell, fun _ => rfl⟩
def tornC (c : Ce) (n : Int) : Ce := ⟨catY [⟨c.nxt.nil, c.nxt.l.take n.toNat⟩, ⟨c.now.nil, c.now.l.drop (if (c.now.l.length : Int) < n then (c.now.l.length : Int) else n).toNat⟩], ⟨true, []⟩, false⟩
def tornN (c : Ce) (t : List Int) : Int := match t with
 | [] => 0
 | x :: _ => if 0 < (if (c.nxt.l.length : Int) < x then (c.nxt.l.length : Int) else x) then (if (c.nxt.l.length : Int) < x then (c.nxt.l.length : Int) else x) else 0
theorem tornN_in (c : Ce) (t : List Int) : 0 ≤ tornN c t ∧ tornN c t ≤ c.nxt.l.length := by
 unfold tornN
 split
 ·omega
 ·(repeat' split) <;> omega
def tearTo (g : Nat → Ce) (t : List Int) : Nat → (Nat → Ce) × List Int
 | 0 => (g, t)
 | k + 1 => if (g k).torn then (updC (tearTo g t k).1 k (tornC (g k) (tornN (g k) (tearTo g t k).2)), (tearTo g t k).2.drop 1) else tearTo g t k
theorem tearTo_ge (g : Nat → Ce) (t : List Int) : ∀ k i, k ≤ i → (tearTo g t k).1 i = g i
 | 0, _, _ => rfl
 | k + 1, i, h => by
   rw [tearTo]
   split
   ·have : Nat.beq i k = false := by cases hb : Nat.beq i k with | false => rfl | true => have := Nat.eq_of_beq_eq_true hb; omega
    simp only [updC, this]
    exact tearTo_ge g t k i (by omega)
   ·exact tearTo_ge g t k i (by omega)
def Vt.tear (s : Vt) (t : List Int) : Vt := ⟨(tearTo s.c t 18).1, -1, false⟩
def Vt.again (s : Vt) (t : List Int) : Vt := (s.tear t).write 8 ⟨false, eightB (w64 ((s.tear t).boot + 1))⟩
def L14 (s : Vt) (t : IntL) : LI where
 X := Nat
 x0 := 0
 pre k := k ≤ 18
 inv k := ([(0, .ptr 0 0 0), (1, IntL.A ⟨t.nil, (tearTo s.c t.l k).2⟩), (12, .int 18), (13, .int k)], [s.o1 1, Vt.o2 ⟨(tearTo s.c t.l k).1, s.left, s.dead⟩])
 mu k := 18 - k
 ren := true
theorem catB2 (a b : By) : (catB [a, b]).length = a.l.length + b.l.length := by simp [catB, catTo]
theorem fupd_torn (G : Nat → Ce) (k : Nat) (c : Ce) (y : By) (hx : c.nxt = ⟨true, []⟩) (ht : c.torn = false) (hy : y = c.now) : fupd (vf G) k [FV.y y.nil y.l, FV.y true [], FV.b false] = vf (updC G k c) := by
 obtain ⟨a, b, d⟩ := c
 subst hy hx ht
 exact fupd_vf G k ⟨y, ⟨true, []⟩, false⟩
theorem fn14 (s : Vt) (t : IntL) (hs : ∀ k, (s.c k).now.l.length ≤ 1000000 ∧ (s.c k).nxt.l.length ≤ 1000000) : ACalls Tryz.prog 25 [.ptr 0 0 0, t.A] [s.o1 1, s.o2] (fun a h => a = .tup [] ∧ h = [(s.again t.l).o1 1, (s.again t.l).o2]) := by
 refine o25.runS [(21, e15), (33, e23), (34, e24), (58, e30v)] keep25 2 (fun _ _ _ => L14 s t) (own := true) (kn := 2) (.cons ok15 o21.enter (.cons ok23 o33.enter (.cons ok24 o34.enter (.cons ok30v o58.enter .nil)))) (Nat.le_of_ble_eq_true rfl) rfl (Nat.le_refl _) (fun Γ hsp hkp hk0 hinv κ hκ => ?_)
 dsimp only [keep25] at hkp
 dsimp only [Vt.o1, Vt.o2, vR, IntL.A]
 refine goGaC4 ?_
 refine RUN.loop hk0 hinv rfl rfl (L := L14 s t) rfl rfl rfl ?_ ?_ (fun (k : Nat) (hk : k ≤ 18) κ1 h1 => ?_)
 ·dsimp only [L14, fits, Vt.o1, Vt.o2, vR, IntL.A]
  refine ⟨[some 0, some 1], rfl, ?_, by first | rfl | trivial, ?_⟩
  ·exact rn
  ·exact rn
 ·exact Nat.zero_le _
 have hG := tearTo_ge s.c t.l k k (Nat.le_refl _)
 have hS : tearTo s.c t.l (k + 1) = if (s.c k).torn then (updC (tearTo s.c t.l k).1 k (tornC (s.c k) (tornN (s.c k) (tearTo s.c t.l k).2)), (tearTo s.c t.l k).2.drop 1) else tearTo s.c t.l k := rfl
 have next : ∀ G L, tearTo s.c t.l (k + 1) = (G, L) → k < 18 → ∀ a4 a5 a6 a14 a27 a30, κ1 [(0, .ptr 0 0 0), (1, .sl t.nil L.length 1 (.ai L) false), (4, a4), (5, a5), (6, a6), (12, .int 18), (13, .int ((k + 1 : Nat) : Int)), (14, a14), (27, a27), (30, a30)] [s.o1 1, Vt.o2 ⟨G, s.left, s.dead⟩] := by
  intro G L e hk a4 a5 a6 a14 a27 a30
  subst h1
  dsimp only [loopK, fits, L14, Vt.o1, Vt.o2, vR, IntL.A]
  refine ⟨k + 1, by omega, by omega, [some 0, some 1], rfl, ?_, by first | rfl | trivial, ?_⟩ <;> rw [e]
  ·exact rn
  ·exact rn
 have wk : k < 18 → w64 ((k : Int) + 1) = ((k + 1 : Nat) : Int) := fun h => by rw [w64_in (by omega)]; omega
 dsimp only [L14, Vt.o1, Vt.o2, vR, IntL.A] at next ⊢
 obtain ⟨G, L, hp⟩ : ∃ G L, tearTo s.c t.l k = (G, L) := ⟨_, _, rfl⟩
 rw [hp] at hG hS ⊢
 dsimp only at hG hS ⊢
 rw [← hG] at hS
 refine goGaC8 ?_
 refine RUN.cond rfl rfl (fun h => ?_) (fun h => ?_)
 ·have h : k < 18 := by have := of_decide_eq_true h; omega
  refine goGaC8 ?_
  refine RUN.cond rfl rfl (fun h2 => ?_) (fun h2 => ?_)
  ·have h2 := not_t h2
   refine goGaC8 ?_
   rw [wk h]
   refine next G L ?_ h _ _ _ _ _ _
   rw [hS, if_neg (by rw [h2]; exact Bool.false_ne_true)]
  ·have h2 := not_f h2
   refine goGaC8 ?_
   have hl := hs k
   rw [← hG] at hl
   cases L with
   | nil =>
     refine RUN.cond rfl rfl (fun h3 => absurd (of_decide_eq_true h3) (by simp)) (fun h3 => ?_)
     refine goGaC9 ?_
     refine ⟨⟨by rw [catB2]; simp only [List.length_take, List.length_drop]; omega, by simp⟩, h, ?_⟩
     rw [fupd_torn G k (tornC (G k) 0) _ rfl rfl ?_]
     ·refine goGaC8 ?_
      rw [wk h]
      refine next (updC G k (tornC (G k) 0)) [] ?_ h _ _ _ _ _ _
      rw [hS, if_pos h2]
      rfl
     ·rfl
   | cons x L =>
     refine RUN.cond rfl rfl (fun h3 => ?_) (fun h3 => absurd (of_decide_eq_false h3) (by simp))
     have hn := tornN_in (G k) (x :: L)
     have en : tornN (G k) (x :: L) = if 0 < (if ((G k).nxt.l.length : Int) < x then ((G k).nxt.l.length : Int) else x) then (if ((G k).nxt.l.length : Int) < x then ((G k).nxt.l.length : Int) else x) else 0 := rfl
     refine goGaC9 ?_
     refine ⟨⟨by omega, by simp⟩, by simp, h, ?_⟩
     simp only [List.getD_cons_zero]
     rw [← en]
     have hT : tearTo s.c t.l (k + 1) = (updC G k (tornC (G k) (tornN (G k) (x :: L))), L) := by rw [hS, if_pos h2]; rfl
     generalize tornN (G k) (x :: L) = n at hn hT ⊢
     refine goGaC9 ?_
     refine ⟨by rw [List.length_cons]; omega, ?_⟩
     refine goGaC9 ?_
     refine ⟨⟨by rw [catB2]; simp only [List.length_take, List.length_drop]; omega, by simp⟩, h, ?_⟩
     rw [fupd_torn G k (tornC (G k) n) _ rfl rfl ?_]
     ·refine goGaC8 ?_
      rw [wk h]
      exact next (updC G k (tornC (G k) n)) L hT h _ _ _ _ _ _
     ·rfl
 ·have h : k = 18 := by have := of_decide_eq_false h; omega
  subst h
  have eT : s.tear t.l = ⟨G, -1, false⟩ := by rw [Vt.tear, hp]
  have eA : s.again t.l = (s.tear t.l).write 8 ⟨false, eightB (w64 ((s.tear t.l).boot + 1))⟩ := rfl
  rw [eT] at eA
  rw [eA] at hκ
  have hl := eightB_len (w64 ((⟨G, -1, false⟩ : Vt).boot + 1))
  (repeat (first | ((first | refine RUN.sreg hsp hkp rfl (fun κ__ h__ => ?_) | refine RUN.reg hsp hkp rfl (fun κ__ h__ => ?_)); dsimp only [e15, e23, e24, evV, vtD, rwD, allB, not, Vt.o1, Vt.o2, vR, toCe_vf, By.eta, Ce.eta, Vt.eta, go_sem, Nat.succ, Int.reduceToNat, Nat.reduceAdd, Nat.reduceMul, Nat.reduceSub, Int.reduceLT, Int.reduceLE, Int.reduceNeg, UInt64.reduceToNat, UInt32.reduceToNat, UInt8.reduceToNat]; subst h__) | refine RUN.block rfl ?_ | refine RUN.skip rfl ?_ | refine RUN.ret rfl ?_ | (refine RUN.exit rfl ?_; dsimp only [xfind, xfB, Nat.beq]) | (refine RUN.seq rfl (fun κ__ h__ => ?_); subst h__) | (refine RUN.cond rfl (p := true) rfl (fun _ => ?_) (fun h__ => by cases h__)) | (refine RUN.cond rfl (p := false) rfl (fun h__ => by cases h__) (fun _ => ?_)) | refine ⟨by first | trivial | omega | (and_intros <;> first | trivial | rfl | omega) | rfl, ?_⟩))
  subst hκ
  dsimp only [leafK, res25, Vt.o1, Vt.o2, vR, go_sem, Nat.succ, Int.reduceToNat, Nat.reduceAdd, Nat.reduceMul, Nat.reduceSub, Int.reduceLT, Int.reduceLE, Int.reduceNeg, UInt64.reduceToNat, UInt32.reduceToNat, UInt8.reduceToNat]
  and_intros <;> first | rfl | trivial
def Vt.low (s : Vt) : Prop := ∀ k, (s.c k).now.l.length ≤ 1000000 ∧ (s.c k).nxt.l.length ≤ 1000000
def e14 : SpE := ⟨true, evL (consG vtG (consG (valG intlD) nilG)) (consO 2 vtO (consO 0 valO nilO)) (fun x => x.1.low) (fun _ _ => .tup []) (fun x => (x.1.again x.2.1.l, x.2)) noMore⟩
theorem ok14 : SpE.ok Tryz.prog 25 e14 := evL_ok (.cons vVt (.cons (.val kIntL) .nil)) (fun _ _ => rfl) (fun _ _ => rfl) (fun ⟨s, t, _⟩ h => fn14 s t h)

def nmL : List TX := [[97], [98], [99, 99], [100, 33], [101], [102], [103], [104], [105], [106, 106]]
theorem fn20 : ACalls Tryz.prog 36 [] [] (fun a h => a = .sl false 10 1 (.rw 10 1 (sfn (lstF nmL))) false ∧ h = []) := by
 refine ACalls.tell (K := fun a h => a = .sl false 10 1 (.agg (nmL.map .str)) true ∧ h = []) ?_ ?_
 ·refine o36.runS [] keep36 0 (fun _ _ _ => L55) (own := true) (kn := 0) .nil (Nat.le_of_ble_eq_true rfl) rfl (Nat.le_refl _) (fun Γ hsp hkp hk0 hinv κ hκ => ?_)
  dsimp only [keep36] at hkp
  refine goGaC4 ?_
  subst hκ
  dsimp only [leafK, res36, go_sem, Nat.succ, Int.reduceToNat, Nat.reduceAdd, Nat.reduceMul, Nat.reduceSub, Int.reduceLT, Int.reduceLE, Int.reduceNeg, UInt64.reduceToNat, UInt32.reduceToNat, UInt8.reduceToNat]
  and_intros <;> first | rfl | trivial
 ·rintro r h ⟨rfl, rfl⟩
  refine ⟨_, _, ⟨rfl, rfl⟩, fun E v r => ?_, TellH.refl _⟩
  have e : flatF 1 (sfn (lstF nmL)) 10 = nmL.map FV.s := rfl
  simp only [rel, Bool.false_eq_true, if_false, relC, e] at r ⊢
  obtain ⟨a, cap, vs, h1, h2, h3, h4, h5, h6⟩ := r
  refine ⟨a, cap, vs, h1, h2, (fun e => by cases e), h4, h5, ?_, h6.2⟩
  rw [← relFL_A]
  exact h6.1
def e20 : SpE := ⟨true, ev0 (.sl false 10 1 (.rw 10 1 (sfn (lstF nmL))) false)⟩
theorem ok20 : SpE.ok Tryz.prog 36 e20 := ev0_ok rfl fn20
open Go.Proofs
set_option maxRecDepth 100000

theorem eightB_eq (n : Int) : eightB n = atB (Num.from n) 8 := rfl
theorem i64_eight {n : Int} (h : 0 ≤ n ∧ n < 9223372036854775808) : (Num.read (eightB n)).i64 = n := by rw [eightB_eq]; exact i64_from h
theorem written_len (i : Int) (r : Cnt) : (writtenB i r).length = 25 + r.b.l.length := by
 rw [writtenB, List.length_append, tagB_len, bodyB_len]; omega
theorem cell_read (i : Int) (r : Cnt) (nl : Bool) (hn : 0 ≤ r.n ∧ r.n < 9223372036854775808) (hb : r.b.l.length ≤ 255) :
  readC ⟨nl, writtenB i r⟩ = ⟨r.n, ⟨nl, r.b.l⟩⟩ ∧ readOK i ⟨nl, writtenB i r⟩ = true := by
 have e : writtenB i r = eightB r.n ++ (UInt8.ofInt (r.b.l.length : Int) :: (r.b.l ++ tagB i r)) := by simp [writtenB, bodyB]
 have h8 := eightB_len r.n
 have hx : (UInt8.ofInt (r.b.l.length : Int)).toNat = r.b.l.length := u8_small (by omega)
 have hl := written_len i r
 have h1 : (writtenB i r).getD 8 0 = UInt8.ofInt (r.b.l.length : Int) := by
  rw [e, List.getD_eq_getElem?_getD, List.getElem?_append_right (by omega), h8]; rfl
 have hc : cellOK (writtenB i r) = true := by
  unfold cellOK
  rw [h1, hx, hl]
  simp
 have h2 : (writtenB i r).take 8 = eightB r.n := by rw [e, List.take_append_of_le_length (by omega), List.take_of_length_le (by omega)]
 have h3 : ((writtenB i r).drop 9).take ((writtenB i r).length - 25) = r.b.l := by
  rw [hl, e, show (9 : Nat) = (eightB r.n).length + 1 by omega, List.drop_append, List.drop_of_length_le (by omega)]
  simp
 have h4 : cellC ⟨nl, writtenB i r⟩ = ⟨r.n, ⟨nl, r.b.l⟩⟩ := by
  simp only [cellC, h2, h3, i64_eight hn]
 constructor
 ·simp only [readC, hc, if_true, h4]
 ·simp only [readOK, hc, h4, Bool.true_and]
  exact beq_self_eq_true (writtenB i r)

theorem ix_nat (n k : Nat) (hn : n ≤ 8) (hk : k ≤ 1) : ix (n : Int) k = ((2 * n + k : Nat) : Int) := by
 unfold ix
 rw [w64_in (n := 2 * (n : Int)) (by omega), w64_in (by omega)]; omega
theorem updC_self (g : Nat → Ce) (k : Nat) (x : Ce) : updC g k x k = x := by unfold updC; rw [Nat.beq_refl]
theorem updC_ne (g : Nat → Ce) {k i : Nat} (x : Ce) (h : i ≠ k) : updC g k x i = g i := by
 unfold updC
 have : Nat.beq i k = false := by cases hb : Nat.beq i k with | false => rfl | true => exact absurd (Nat.eq_of_beq_eq_true hb) h
 rw [this]
theorem updC_two (g : Nat → Ce) (k : Nat) (x y : Ce) : updC (updC g k x) k y = updC g k y := by
 funext i
 unfold updC
 cases Nat.beq i k <;> rfl
def cnt2 (a : Bool) (c0 : Cnt) (b : Bool) (c1 : Cnt) : Int × Cnt := if b && (!a || decide (c0.n < c1.n)) then (1, c1) else if a then (0, c0) else (-1, cnt0)
theorem cnt_two (g : Nat → Ce) (n : Nat) (hn : n ≤ 8) : cntTo g n 2 = cnt2 (readOK ((2 * n : Nat) : Int) (g (2 * n)).now) (readC (g (2 * n)).now) (readOK ((2 * n + 1 : Nat) : Int) (g (2 * n + 1)).now) (readC (g (2 * n + 1)).now) := by
 have e0 := ix_nat n 0 hn (by omega)
 have e1 := ix_nat n 1 hn (by omega)
 simp only [cntTo, e0, e1, Int.toNat_natCast, Nat.add_zero]
 unfold cnt2
 cases readOK ((2 * n : Nat) : Int) (g (2 * n)).now <;> cases readOK ((2 * n + 1 : Nat) : Int) (g (2 * n + 1)).now <;> simp
theorem cnt_congr {g g' : Nat → Ce} {m : Nat} (hm : m ≤ 8) (h0 : (g' (2 * m)).now = (g (2 * m)).now) (h1 : (g' (2 * m + 1)).now = (g (2 * m + 1)).now) : cntTo g' m 2 = cntTo g m 2 := by
 rw [cnt_two _ _ hm, cnt_two _ _ hm, h0, h1]
theorem cnt2_idx (a b : Bool) (c0 c1 : Cnt) : (cnt2 a c0 b c1).1 = -1 ∧ (cnt2 a c0 b c1).2 = cnt0 ∧ a = false ∧ b = false ∨ (cnt2 a c0 b c1).1 = 0 ∧ (cnt2 a c0 b c1).2 = c0 ∧ a = true ∨ (cnt2 a c0 b c1).1 = 1 ∧ (cnt2 a c0 b c1).2 = c1 ∧ b = true := by
 unfold cnt2
 cases a <;> cases b <;> simp
 by_cases h : c0.n < c1.n <;> simp [h]
theorem wrAt_nat (s : Vt) (n : Nat) (hn : n ≤ 8) : wrAt s n = if (cntTo s.c n 2).1 = 0 then ((2 * n + 1 : Nat) : Int) else ((2 * n : Nat) : Int) := by
 have h := cnt_idx s.c n 2
 unfold wrAt
 split
 ·rw [w64_in (by omega), if_neg (by omega)]; omega
 ·rename_i h1
  rw [w64_in (n := 2 * (n : Int)) (by omega), w64_in (n := 2 * (n : Int) + 1) (by omega)]
  rw [w64_in (by omega)]
  split <;> omega
theorem wrAt_toNat (s : Vt) (n : Nat) (hn : n ≤ 8) : (wrAt s n).toNat = 2 * n ∨ (wrAt s n).toNat = 2 * n + 1 := by
 rw [wrAt_nat s n hn]
 split <;> omega
theorem cnt_written (s : Vt) (n : Nat) (b : By) (e : By) (t : Bool) (hn : n ≤ 8) (ht : 0 ≤ (s.cnt n).n ∧ (s.cnt n).n < 9223372036854775807) (hb : b.l.length ≤ 255) :
  (cntTo (updC s.c (wrAt s n).toNat ⟨wrB s n b, e, t⟩) n 2).2 = ⟨(s.cnt n).n + 1, ⟨false, b.l⟩⟩ ∧ 0 ≤ (cntTo (updC s.c (wrAt s n).toNat ⟨wrB s n b, e, t⟩) n 2).1 := by
 have hw : w64 ((s.cnt n).n + 1) = (s.cnt n).n + 1 := w64_in (by omega)
 obtain ⟨r1, r2⟩ := cell_read (wrAt s n) ⟨w64 ((s.cnt n).n + 1), b⟩ false (by rw [hw]; exact ⟨by show 0 ≤ (s.cnt n).n + 1; omega, by show (s.cnt n).n + 1 < _; omega⟩) hb
 have rB : wrB s n b = ⟨false, writtenB (wrAt s n) ⟨w64 ((s.cnt n).n + 1), b⟩⟩ := rfl
 rw [← rB] at r1 r2
 simp only [hw] at r1
 have hat := wrAt_nat s n hn
 have hc := cnt_two s.c n hn
 have hcn : (cntTo s.c n 2).2 = s.cnt n := rfl
 rw [cnt_two _ n hn]
 generalize wrB s n b = B at r1 r2 ⊢
 rcases cnt2_idx (readOK ((2 * n : Nat) : Int) (s.c (2 * n)).now) (readOK ((2 * n + 1 : Nat) : Int) (s.c (2 * n + 1)).now) (readC (s.c (2 * n)).now) (readC (s.c (2 * n + 1)).now) with ⟨k1, k2, k3, k4⟩ | ⟨k1, k2, k3⟩ | ⟨k1, k2, k3⟩
 ·rw [← hc] at k1 k2
  rw [if_neg (by omega)] at hat
  rw [hat] at r2 ⊢
  simp only [Int.toNat_natCast, updC_self]
  rw [updC_ne _ _ (show 2 * n + 1 ≠ 2 * n by omega), r2, k4, r1]
  simp [cnt2]
 ·rw [← hc] at k1 k2
  rw [if_pos k1] at hat
  rw [hat] at r2 ⊢
  simp only [Int.toNat_natCast, updC_self]
  rw [updC_ne _ _ (show 2 * n ≠ 2 * n + 1 by omega), r2, k3, r1, ← k2, hcn]
  simp [cnt2, show (s.cnt n).n < (s.cnt n).n + 1 by omega]
 ·rw [← hc] at k1 k2
  rw [if_neg (by omega)] at hat
  rw [hat] at r2 ⊢
  simp only [Int.toNat_natCast, updC_self]
  rw [updC_ne _ _ (show 2 * n + 1 ≠ 2 * n by omega), r2, k3, r1, ← k2, hcn]
  simp [cnt2, show ¬ (s.cnt n).n + 1 < (s.cnt n).n by omega]
theorem write_full {s : Vt} (n : Int) (b : By) (h0 : s.dead = false) (h1 : s.left < 0 ∨ 2 ≤ s.left) :
  s.write n b = ⟨updC s.c (wrAt s n).toNat ⟨wrB s n b, ⟨true, []⟩, false⟩, if s.left < 0 then s.left else s.left - 2, false⟩ ∧ s.wrOK n b = true := by
 have g1 : s.go = true := go_true h0 (by omega)
 have e1 := st40_t (n := wrAt s n) (b := wrB s n b) g1
 have g2 : (s.st40 (wrAt s n) (wrB s n b)).go = true := by rw [e1]; exact go_true h0 (by dsimp only; split <;> omega)
 have e2 := st41_t (n := wrAt s n) g2
 constructor
 ·rw [Vt.write, if_pos g1, e2, e1]
  dsimp only [put41, put40]
  rw [updC_self, updC_two, h0]
  congr 1
  (repeat' split) <;> omega
 ·rw [Vt.wrOK, g1, g2]; rfl
theorem write_half {s : Vt} (n : Int) (b : By) (h0 : s.dead = false) (h1 : s.left = 1) : s.write n b = ⟨updC s.c (wrAt s n).toNat ⟨(s.c (wrAt s n).toNat).now, wrB s n b, true⟩, 0, true⟩ ∧ s.wrOK n b = false := by
 have g1 : s.go = true := go_true h0 (by omega)
 have e1 := st40_t (n := wrAt s n) (b := wrB s n b) g1
 have g2 : (s.st40 (wrAt s n) (wrB s n b)).go = false := by rw [e1]; exact go_false (.inr (by dsimp only; rw [h1]; rfl))
 have e2 := st41_f (n := wrAt s n) g2
 constructor
 ·rw [Vt.write, if_pos g1, e2, e1, h1]; rfl
 ·rw [Vt.wrOK, g1, g2]; rfl
theorem write_none {s : Vt} (n : Int) (b : By) (h : s.dead = true ∨ s.left = 0) : s.write n b = ⟨s.c, s.left, true⟩ ∧ s.wrOK n b = false := by
 have g1 := go_false h
 constructor
 ·rw [Vt.write, if_neg (by rw [g1]; exact Bool.false_ne_true), st40_f g1]
 ·rw [Vt.wrOK, g1]; rfl

def Vt.fine (s : Vt) : Prop := ∀ k, (s.c k).now.l.length ≤ 1000 ∧ (s.c k).nxt.l.length ≤ 1000
theorem Vt.fine.low {s : Vt} (h : s.fine) : s.low := fun k => ⟨Nat.le_trans (h k).1 (by decide), Nat.le_trans (h k).2 (by decide)⟩
theorem Vt.fine.small {s : Vt} (h : s.fine) : s.small := fun k => ⟨Nat.le_trans (h k).1 (by decide), Nat.le_trans (h k).2 (by decide)⟩
theorem wrB_len (s : Vt) (n : Int) (b : By) : (wrB s n b).l.length = 25 + b.l.length := written_len _ _
theorem write_cases (s : Vt) (n : Int) (b : By) (hn : 0 ≤ n ∧ n ≤ 8) : (∃ x : Ce, (s.write n b).c = updC s.c (wrAt s n).toNat x ∧ ((x.now = (s.c (wrAt s n).toNat).now ∧ x.nxt = wrB s n b) ∨ (x.now = wrB s n b ∧ x.nxt = ⟨true, []⟩))) ∨ (s.write n b).c = s.c := by
 cases hg : s.go with
 | false =>
   right
   rw [Vt.write, if_neg (by rw [hg]; exact Bool.false_ne_true), st40_f hg]
 | true =>
   left
   have e1 := st40_t (n := wrAt s n) (b := wrB s n b) hg
   rw [Vt.write, if_pos hg]
   cases hg2 : (s.st40 (wrAt s n) (wrB s n b)).go with
   | false =>
     rw [st41_f hg2, e1]
     exact ⟨⟨(s.c (wrAt s n).toNat).now, wrB s n b, true⟩, rfl, .inl ⟨rfl, rfl⟩⟩
   | true =>
     rw [st41_t hg2, e1]
     dsimp only [put41, put40]
     rw [updC_self, updC_two]
     exact ⟨_, rfl, .inr ⟨rfl, rfl⟩⟩
theorem write_fine {s : Vt} (n : Int) (b : By) (hn : 0 ≤ n ∧ n ≤ 8) (hs : s.fine) (hb : b.l.length ≤ 900) : (s.write n b).fine := by
 have hl := wrB_len s n b
 rcases write_cases s n b hn with ⟨x, e, hx⟩ | e
 ·intro k
  rw [e]
  by_cases hk : k = (wrAt s n).toNat
  ·subst hk
   rw [updC_self]
   have := hs (wrAt s n).toNat
   rcases hx with ⟨h1, h2⟩ | ⟨h1, h2⟩ <;> rw [h1, h2]
   ·exact ⟨this.1, by omega⟩
   ·exact ⟨by omega, Nat.zero_le _⟩
  ·rw [updC_ne _ _ hk]; exact hs k
 ·intro k; rw [e]; exact hs k
theorem write_else {s : Vt} (n : Nat) (b : By) (hn : n ≤ 8) (k : Nat) (hk : k ≠ 2 * n ∧ k ≠ 2 * n + 1) : (s.write n b).c k = s.c k := by
 have h := wrAt_toNat s n hn
 rcases write_cases s n b (by omega) with ⟨x, e, _⟩ | e
 ·rw [e, updC_ne _ _ (by omega)]
 ·rw [e]
theorem put_slot (s : Vt) (r : Rec) (h : (s.put r).2 ≠ s) : ∃ n : Nat, n < 8 ∧ (s.put r).2 = s.write n r.outW := by
 unfold Vt.put at h ⊢
 have f1 := find_in s r.name
 have f2 := free_in s
 split at h
 ·exact absurd rfl h
 ·rename_i h1
  split at h
  ·rename_i h2
   split at h
   ·exact absurd rfl h
   ·rename_i h3
    have : s.slot r.name < 8 := by unfold Vt.slot; split <;> omega
    refine ⟨(s.slot r.name).toNat, by omega, ?_⟩
    rw [if_neg h1, if_pos h2, if_neg h3]
    have e : ((s.slot r.name).toNat : Int) = s.slot r.name := by omega
    rw [e]
  ·exact absurd rfl h
open Go.Proofs
set_option maxRecDepth 100000

structure Rec.good (r : Rec) : Prop where
 ok : r.ok = true
 at_ : r.at_ < 9223372036854775808
 rev : r.rev < 9223372036854775808
theorem readW_nil (z : Bool) : readW ⟨z, []⟩ = none := by cases z <;> rfl
theorem out_pos {r : Rec} (h : r.ok = true) : r.outW.l ≠ [] := by rw [rec_bytes h]; exact List.cons_ne_nil _ _
theorem out_len {r : Rec} (h : r.ok = true) : r.outW.l.length ≤ 200 := by
 obtain ⟨_, _, h3, h4, h5, _⟩ := Rec.oks h
 have hn : r.name.length ≤ 16 := by
  unfold nameOK at h3
  simp only [Bool.and_eq_true, decide_eq_true_eq] at h3
  omega
 rw [rec_bytes h]
 simp only [List.length_cons, List.length_append, be4_len, atB8]
 omega
def Vt.holds (s : Vt) (k : Nat) (r : Rec) : Prop := (s.cnt k).b.l = r.outW.l ∧ r.good
theorem holds_read {s : Vt} {k : Nat} {r : Rec} (h : s.holds k r) : ∃ d, readW (s.cnt k).b = some d ∧ d.norm = r.norm := by
 obtain ⟨h1, h2⟩ := h
 obtain ⟨d, e1, e2⟩ := readW_back r (s.cnt k).b.nil h2.ok h2.at_ h2.rev
 rw [← h1] at e1
 exact ⟨d, e1, e2⟩
theorem holds_rcd {s : Vt} {k : Nat} {r : Rec} (h : s.holds k r) : s.has k = true ∧ (s.rcd k).norm = r.norm ∧ (s.rcd k).name = r.name := by
 obtain ⟨d, h1, h2⟩ := holds_read h
 have e : s.rcd k = d := by show orZR (readW (s.cnt k).b) = d; rw [h1]; rfl
 refine ⟨?_, by rw [e]; exact h2, by rw [e]; exact by have := congrArg Rec.name h2; exact this⟩
 show (readW (s.cnt k).b).isSome = true
 rw [h1]; rfl
theorem empty_rcd {s : Vt} {k : Nat} (h : (s.cnt k).b.l = []) : s.has k = false := by
 show (readW (s.cnt k).b).isSome = false
 have : (s.cnt k).b = ⟨(s.cnt k).b.nil, []⟩ := by rw [← h]
 rw [this, readW_nil]; rfl
structure Acc (s : Vt) (A : Nat → Option Rec) (T : Int) : Prop where
 full : ∀ k r, k < 8 → A k = some r → s.holds k r
 bare : ∀ k, k < 8 → A k = none → (s.cnt k).b.l = []
 turn : ∀ n : Nat, n ≤ 8 → 0 ≤ (s.cnt n).n ∧ (s.cnt n).n ≤ T
def named (A : Nat → Option Rec) (nm : TX) (k : Nat) : Bool := match A k with | some r => r.name == nm | none => false
def noneA (A : Nat → Option Rec) (k : Nat) : Bool := match A k with | some _ => false | none => true
theorem firstI_congr {p q : Nat → Bool} : ∀ n, (∀ k, k < n → p k = q k) → firstI p n = firstI q n
 | 0, _ => rfl
 | n + 1, h => by rw [firstI, firstI, firstI_congr n (fun k hk => h k (by omega)), h n (by omega)]
theorem firstI_some {p : Nat → Bool} : ∀ {n : Nat} {k : Int}, firstI p n = k → 0 ≤ k → k < n ∧ p k.toNat = true ∧ ∀ j : Nat, (j : Int) < k → p j = false
 | 0, k, h, h0 => by simp only [firstI] at h; omega
 | n + 1, k, h, h0 => by
   rw [firstI] at h
   split at h
   ·rename_i h1
    obtain ⟨a, b, c⟩ := firstI_some h h0
    exact ⟨by omega, b, c⟩
   ·rename_i h1
    split at h
    ·rename_i h2
     subst h
     refine ⟨by omega, h2, fun j hj => ?_⟩
     have key : ∀ n, firstI p n < 0 → ∀ j, j < n → p j = false := fun n => by
      induction n with
      | zero => intro _ j hj; omega
      | succ n ih =>
        intro hn j hj
        rw [firstI] at hn
        split at hn
        ·omega
        ·split at hn
         ·omega
         ·rename_i hp
          rcases Nat.lt_or_ge j n with hj' | hj'
          ·exact ih (by omega) j hj'
          ·have : j = n := by omega
           subst this
           cases hpj : p j with
           | true => exact absurd hpj hp
           | false => rfl
     exact key n (by omega) j (by omega)
    ·omega
theorem firstI_none {p : Nat → Bool} {n : Nat} (h : firstI p n < 0) : ∀ j, j < n → p j = false := by
 induction n with
 | zero => intro j hj; omega
 | succ n ih =>
   intro j hj
   rw [firstI] at h
   split at h
   ·omega
   ·split at h
    ·omega
    ·rename_i hp
     rcases Nat.lt_or_ge j n with hj' | hj'
     ·exact ih (by omega) j hj'
     ·have : j = n := by omega
      subst this
      cases hpj : p j with
      | true => exact absurd hpj hp
      | false => rfl
theorem firstI_is {p : Nat → Bool} {n k : Nat} (hk : k < n) (hp : p k = true) (hj : ∀ j, j < k → p j = false) : firstI p n = k := by
 have h0 : 0 ≤ firstI p n := by
  rcases Int.lt_or_le (firstI p n) 0 with h | h
  ·have := firstI_none h k hk; rw [hp] at this; cases this
  ·exact h
 obtain ⟨h1, h2, h3⟩ := firstI_some rfl h0
 have e : ((firstI p n).toNat : Int) = firstI p n := by omega
 rcases Int.lt_trichotomy (firstI p n) k with h | h | h
 ·have := hj (firstI p n).toNat (by omega); rw [h2] at this; cases this
 ·exact h
 ·have := h3 k h; rw [hp] at this; cases this
theorem frTo_first (s : Vt) : ∀ n, s.frTo n = firstI (fun k => decide ((s.cnt k).b.l.length = 0)) n
 | 0 => rfl
 | n + 1 => by
   rw [Vt.frTo, firstI, frTo_first s n]
   simp only [decide_eq_true_eq]
variable {s : Vt} {A : Nat → Option Rec} {T : Int}
theorem Acc.isN (h : Acc s A T) (nm : TX) {k : Nat} (hk : k < 8) : s.isN nm k = named A nm k := by
 unfold Vt.isN named
 cases hA : A k with
 | none => simp only [empty_rcd (h.bare k hk hA), Bool.false_and]
 | some r =>
   obtain ⟨h1, _, h3⟩ := holds_rcd (h.full k r hk hA)
   simp only [h1, h3, Bool.true_and]
theorem Acc.find (h : Acc s A T) (nm : TX) : s.find nm = firstI (named A nm) 8 := firstI_congr 8 fun k hk => h.isN nm hk
theorem Acc.free (h : Acc s A T) : s.free = firstI (noneA A) 8 := by
 rw [Vt.free, frTo_first]
 refine firstI_congr 8 fun k hk => ?_
 unfold noneA
 cases hA : A k with
 | none => simp [h.bare k hk hA]
 | some r =>
   have h1 := (h.full k r hk hA).1
   have h2 := out_pos (h.full k r hk hA).2.ok
   rw [← h1] at h2
   simp [h2]
def updA (A : Nat → Option Rec) (n : Nat) (x : Option Rec) (k : Nat) : Option Rec := if k = n then x else A k
theorem Acc.write (h : Acc s A T) (n : Nat) (hn : n ≤ 8) (b : By) (hb : b.l.length ≤ 255) (hT : T < 9223372036854775807) (hd : s.dead = false) (hl : s.left < 0 ∨ 2 ≤ s.left) (x : Option Rec)
  (hx : n = 8 ∨ match x with | some r => b.l = r.outW.l ∧ r.good | none => b.l = []) : Acc (s.write n b) (if n = 8 then A else updA A n x) (T + 1) ∧ ((s.write n b).cnt n) = ⟨(s.cnt n).n + 1, ⟨false, b.l⟩⟩ ∧ 0 ≤ (cntTo (s.write n b).c n 2).1 := by
 have hw := (write_full (s := s) n b hd hl).1
 have ht := h.turn n hn
 obtain ⟨c1, c2⟩ := cnt_written s n b ⟨true, []⟩ false hn ⟨ht.1, by omega⟩ hb
 have e1 : (s.write n b).cnt n = ⟨(s.cnt n).n + 1, ⟨false, b.l⟩⟩ := by rw [Vt.cnt, hw]; exact c1
 have other : ∀ m : Nat, m ≤ 8 → m ≠ n → (s.write n b).cnt m = s.cnt m := fun m hm hne => by
  rw [Vt.cnt, Vt.cnt]
  congr 1
  exact cnt_congr hm (by rw [write_else n b hn (2 * m) (by omega)]) (by rw [write_else n b hn (2 * m + 1) (by omega)])
 refine ⟨⟨fun k r hk hA => ?_, fun k hk hA => ?_, fun m hm => ?_⟩, e1, by rw [hw]; exact c2⟩
 ·by_cases h8 : n = 8
  ·rw [if_pos h8] at hA
   have := other k (by omega) (by omega)
   unfold Vt.holds; rw [this]; exact h.full k r hk hA
  ·rw [if_neg h8] at hA
   unfold updA at hA
   split at hA
   ·rename_i hkn
    subst hkn
    rcases hx with hx | hx
    ·exact absurd hx h8
    ·subst hA
     unfold Vt.holds; rw [e1]; exact hx
   ·rename_i hkn
    have := other k (by omega) hkn
    unfold Vt.holds; rw [this]; exact h.full k r hk hA
 ·by_cases h8 : n = 8
  ·rw [if_pos h8] at hA
   rw [other k (by omega) (by omega)]; exact h.bare k hk hA
  ·rw [if_neg h8] at hA
   unfold updA at hA
   split at hA
   ·rename_i hkn
    subst hkn
    rcases hx with hx | hx
    ·exact absurd hx h8
    ·subst hA
     rw [e1]; exact hx
   ·rename_i hkn
    rw [other k (by omega) hkn]; exact h.bare k hk hA
 ·by_cases hmn : m = n
  ·subst hmn; rw [e1]; exact ⟨by show 0 ≤ (s.cnt m).n + 1; omega, by show (s.cnt m).n + 1 ≤ T + 1; omega⟩
  ·rw [other m hm hmn]; have := h.turn m hm; omega
def slotA (A : Nat → Option Rec) (nm : TX) : Int := if firstI (named A nm) 8 < 0 then firstI (noneA A) 8 else firstI (named A nm) 8
theorem Acc.slot (h : Acc s A T) (nm : TX) : s.slot nm = slotA A nm := by rw [Vt.slot, slotA, h.find, h.free]
theorem slotA_in (A : Nat → Option Rec) (nm : TX) : -1 ≤ slotA A nm ∧ slotA A nm < 8 := by
 have h1 := firstI_in (named A nm) 8
 have h2 := firstI_in (noneA A) 8
 unfold slotA
 split <;> omega
def leftBy (s : Vt) : Int := if s.left < 0 then s.left else s.left - 2
theorem Acc.put (h : Acc s A T) {r : Rec} (hr : r.good) (hT : T < 9223372036854775807) (hd : s.dead = false) (hl : s.left < 0 ∨ 2 ≤ s.left) {n : Nat} (hs : slotA A r.name = n) :
  (s.put r).1 = 0 ∧ Acc (s.put r).2 (updA A n (some r)) (T + 1) ∧ (s.put r).2 = s.write n r.outW ∧ (s.put r).2.dead = false ∧ (s.put r).2.left = leftBy s := by
 have hn := slotA_in A r.name
 have hw := write_full (s := s) n r.outW hd hl
 have e : s.put r = (0, s.write n r.outW) := by
  unfold Vt.put
  rw [if_neg (by rw [hd]; exact Bool.false_ne_true), if_pos hr.ok, h.slot, hs, if_neg (by omega), if_pos hw.2]
 have hlen := out_len hr.ok
 obtain ⟨k1, _, _⟩ := h.write n (by omega) r.outW (by omega) hT hd hl (some r) (.inr ⟨rfl, hr⟩)
 rw [if_neg (by omega)] at k1
 rw [e]
 exact ⟨rfl, k1, rfl, by dsimp only; rw [hw.1], by dsimp only; rw [hw.1]; rfl⟩
theorem Acc.put_full (h : Acc s A T) {r : Rec} (hr : r.good) (hd : s.dead = false) (hs : slotA A r.name < 0) : s.put r = (7, s) := by
 unfold Vt.put
 rw [if_neg (by rw [hd]; exact Bool.false_ne_true), if_pos hr.ok, h.slot, if_pos hs]
theorem put_dead {s : Vt} (r : Rec) (h : s.dead = true) : s.put r = (10, s) := by unfold Vt.put; rw [if_pos h]
theorem gone_dead {s : Vt} (nm : TX) (h : s.dead = true) : s.gone nm = (10, s) := by unfold Vt.gone; rw [if_pos h]
theorem Acc.gone (h : Acc s A T) {nm : TX} (hT : T < 9223372036854775807) (hd : s.dead = false) (hl : s.left < 0 ∨ 2 ≤ s.left) {n : Nat} (hs : firstI (named A nm) 8 = n) :
  (s.gone nm).1 = 0 ∧ Acc (s.gone nm).2 (updA A n none) (T + 1) ∧ (s.gone nm).2 = s.write n ⟨true, []⟩ ∧ (s.gone nm).2.dead = false ∧ (s.gone nm).2.left = leftBy s := by
 have hn := firstI_in (named A nm) 8
 have hw := write_full (s := s) n ⟨true, []⟩ hd hl
 have e : s.gone nm = (0, s.write n ⟨true, []⟩) := by
  unfold Vt.gone
  rw [if_neg (by rw [hd]; exact Bool.false_ne_true), h.find, hs, if_neg (by omega), if_pos hw.2]
 obtain ⟨k1, _, _⟩ := h.write n (by omega) ⟨true, []⟩ (Nat.zero_le _) hT hd hl none (.inr rfl)
 rw [if_neg (by omega)] at k1
 rw [e]
 exact ⟨rfl, k1, rfl, by dsimp only; rw [hw.1], by dsimp only; rw [hw.1]; rfl⟩
theorem Acc.gone_none (h : Acc s A T) {nm : TX} (hd : s.dead = false) (hs : firstI (named A nm) 8 < 0) : s.gone nm = (3, s) := by
 unfold Vt.gone
 rw [if_neg (by rw [hd]; exact Bool.false_ne_true), h.find, if_pos hs]
theorem Acc.get (h : Acc s A T) {nm : TX} {n : Nat} {r : Rec} (hs : firstI (named A nm) 8 = n) (hA : A n = some r) : ∃ d, s.get nm = some d ∧ d.norm = r.norm ∧ d.name = r.name := by
 have hn := firstI_in (named A nm) 8
 have e : s.get nm = some (s.rcd n) := by unfold Vt.get; rw [h.find, hs, if_neg (by omega)]
 obtain ⟨_, h2, h3⟩ := holds_rcd (h.full n r (by omega) hA)
 exact ⟨_, e, h2, h3⟩
theorem Acc.get_none (h : Acc s A T) {nm : TX} (hs : firstI (named A nm) 8 < 0) : s.get nm = none := by
 unfold Vt.get; rw [h.find, if_pos hs]
def nmsA (A : Nat → Option Rec) : Nat → List TX
 | 0 => []
 | k + 1 => match A k with | some r => nmsA A k ++ [r.name] | none => nmsA A k
theorem Acc.nm (h : Acc s A T) : ∀ k, k ≤ 8 → s.nmTo k = nmsA A k
 | 0, _ => rfl
 | k + 1, hk => by
   rw [Vt.nmTo, nmsA, h.nm k (by omega)]
   cases hA : A k with
   | none => simp only [empty_rcd (h.bare k (by omega) hA), Bool.false_eq_true, if_false]
   | some r =>
     obtain ⟨h1, _, h3⟩ := holds_rcd (h.full k r (by omega) hA)
     simp only [h1, h3, if_true]
theorem Acc.mono (h : Acc s A T) {T' : Int} (hT : T ≤ T') : Acc s A T' := ⟨h.full, h.bare, fun n hn => ⟨(h.turn n hn).1, Int.le_trans (h.turn n hn).2 hT⟩⟩

theorem cntl_congr {g g' : Nat → Ce} {m : Nat} (hm : m ≤ 8) (h0 : (g' (2 * m)).now.l = (g (2 * m)).now.l) (h1 : (g' (2 * m + 1)).now.l = (g (2 * m + 1)).now.l) :
  (cntTo g' m 2).1 = (cntTo g m 2).1 ∧ (cntTo g' m 2).2.n = (cntTo g m 2).2.n ∧ (cntTo g' m 2).2.b.l = (cntTo g m 2).2.b.l := by
 have e1 : ∀ (i : Int) (a b : By), a.l = b.l → readOK i a = readOK i b ∧ (readC a).n = (readC b).n ∧ (readC a).b.l = (readC b).b.l := fun i a b e => by
  obtain ⟨x, l⟩ := a
  obtain ⟨y, l'⟩ := b
  simp only at e
  subst e
  refine ⟨rfl, ?_, ?_⟩ <;> unfold readC <;> dsimp only <;> split <;> rfl
 rw [cnt_two _ _ hm, cnt_two _ _ hm]
 obtain ⟨a1, a2, a3⟩ := e1 ((2 * m : Nat) : Int) _ _ h0
 obtain ⟨b1, b2, b3⟩ := e1 ((2 * m + 1 : Nat) : Int) _ _ h1
 rw [a1, b1]
 unfold cnt2
 rw [a2, b2]
 split
 ·exact ⟨rfl, b2, b3⟩
 ·split
  ·exact ⟨rfl, a2, a3⟩
  ·exact ⟨rfl, rfl, rfl⟩
theorem Acc.congr (h : Acc s A T) {s' : Vt} (hc : ∀ k, k < 18 → (s'.c k).now.l = (s.c k).now.l) : Acc s' A T := by
 have key : ∀ m : Nat, m ≤ 8 → (s'.cnt m).n = (s.cnt m).n ∧ (s'.cnt m).b.l = (s.cnt m).b.l := fun m hm => by
  obtain ⟨_, h2, h3⟩ := cntl_congr (g := s.c) (g' := s'.c) hm (hc _ (by omega)) (hc _ (by omega))
  exact ⟨h2, h3⟩
 refine ⟨fun k r hk hA => ?_, fun k hk hA => ?_, fun n hn => ?_⟩
 ·unfold Vt.holds; rw [(key k (by omega)).2]; exact h.full k r hk hA
 ·rw [(key k (by omega)).2]; exact h.bare k hk hA
 ·rw [(key n hn).1]; exact h.turn n hn
theorem tearTo_no {g : Nat → Ce} {t : List Int} : ∀ n, (∀ k, k < n → (g k).torn = false) → tearTo g t n = (g, t)
 | 0, _ => rfl
 | n + 1, h => by rw [tearTo, if_neg (by rw [h n (by omega)]; exact Bool.false_ne_true), tearTo_no n (fun k hk => h k (by omega))]
theorem tearTo_keep {g : Nat → Ce} {t : List Int} {k : Nat} (hk : (g k).torn = false) : ∀ n, (tearTo g t n).1 k = g k
 | 0 => rfl
 | n + 1 => by
   rw [tearTo]
   split
   ·rename_i hn
    have : k ≠ n := fun e => by subst e; rw [hk] at hn; cases hn
    dsimp only
    rw [updC_ne _ _ this]
    exact tearTo_keep hk n
   ·exact tearTo_keep hk n
theorem tornC_len (c : Ce) (t : List Int) (hc : c.now.l.length ≤ 1000 ∧ c.nxt.l.length ≤ 1000) : (tornC c (tornN c t)).now.l.length ≤ 1000 ∧ (tornC c (tornN c t)).nxt.l.length ≤ 1000 := by
 have hn := tornN_in c t
 refine ⟨?_, Nat.zero_le _⟩
 show (catB [_, _]).length ≤ 1000
 rw [catB2]
 simp only [List.length_take, List.length_drop]
 split <;> omega
theorem tear_fine {s : Vt} {t : List Int} (h : s.fine) : ∀ n k, ((tearTo s.c t n).1 k).now.l.length ≤ 1000 ∧ ((tearTo s.c t n).1 k).nxt.l.length ≤ 1000
 | 0, k => h k
 | n + 1, k => by
   rw [tearTo]
   split
   ·dsimp only
    by_cases hk : k = n
    ·subst hk; rw [updC_self]; exact tornC_len _ _ (h k)
    ·rw [updC_ne _ _ hk]; exact tear_fine h n k
   ·exact tear_fine h n k
theorem again_fine {s : Vt} {t : List Int} (h : s.fine) : (s.again t).fine :=
 write_fine (s := s.tear t) 8 _ (by omega) (fun k => tear_fine h 18 k) (by show (eightB _).length ≤ 900; rw [eightB_len]; omega)
theorem fail_fine {s : Vt} {n : Int} (h : s.fine) : (s.fail n).fine := h
theorem put_fine {s : Vt} {r : Rec} (h : s.fine) (hr : r.outW.l.length ≤ 900) : (s.put r).2.fine := by
 by_cases hs : (s.put r).2 = s
 ·rw [hs]; exact h
 ·obtain ⟨n, hn, e⟩ := put_slot s r hs
  rw [e]; exact write_fine n _ (by omega) h hr
theorem put_else {s : Vt} {r : Rec} (k : Nat) (hk : 16 ≤ k) : (s.put r).2.c k = s.c k := by
 by_cases hs : (s.put r).2 = s
 ·rw [hs]
 ·obtain ⟨n, hn, e⟩ := put_slot s r hs
  rw [e]; exact write_else n _ (by omega) k (by omega)
open Go.Proofs
set_option maxRecDepth 100000

structure Era (s : Vt) (i : Int) : Prop where
 cnt : s.cnt 8 = ⟨i, ⟨false, eightB i⟩⟩
 t16 : (s.c 16).torn = false
 t17 : (s.c 17).torn = false
theorem Era.boot {s : Vt} {i : Int} (h : Era s i) (hi : 0 ≤ i ∧ i < 9223372036854775808) : s.boot = i := by
 rw [Vt.boot, h.cnt]; exact i64_eight hi
theorem Era.congr {s s' : Vt} {i : Int} (h : Era s i) (h0 : s'.c 16 = s.c 16) (h1 : s'.c 17 = s.c 17) : Era s' i := by
 refine ⟨?_, by rw [h0]; exact h.t16, by rw [h1]; exact h.t17⟩
 have : cntTo s'.c (8 : Nat) 2 = cntTo s.c (8 : Nat) 2 := cnt_congr (Nat.le_refl 8) (by rw [h0]) (by rw [h1])
 show (cntTo s'.c (8 : Nat) 2).2 = _
 rw [this]; exact h.cnt
theorem Era.put {s : Vt} {i : Int} (h : Era s i) (r : Rec) : Era (s.put r).2 i := h.congr (put_else 16 (by omega)) (put_else 17 (by omega))
theorem Era.fail {s : Vt} {i : Int} (h : Era s i) (n : Int) : Era (s.fail n) i := h.congr rfl rfl
theorem Era.write {s : Vt} {i : Int} (h : Era s i) {n : Nat} (hn : n < 8) (b : By) : Era (s.write n b) i := h.congr (write_else n b (by omega) 16 (by omega)) (write_else n b (by omega) 17 (by omega))
theorem write_untorn {s : Vt} (n : Int) (b : By) (h0 : s.dead = false) (h1 : s.left < 0 ∨ 2 ≤ s.left) (k : Nat) (hk : (s.c k).torn = false) : ((s.write n b).c k).torn = false := by
 rw [(write_full n b h0 h1).1]
 dsimp only
 by_cases h : k = (wrAt s n).toNat
 ·subst h; rw [updC_self]
 ·rw [updC_ne _ _ h]; exact hk
theorem Era.step {s : Vt} {i : Int} (h : Era s i) (hi : 0 ≤ i ∧ i < 9223372036854775806) (h0 : s.dead = false) (h1 : s.left < 0 ∨ 2 ≤ s.left) : Era (s.write 8 ⟨false, eightB (w64 (s.boot + 1))⟩) (i + 1) := by
 have hb := h.boot ⟨hi.1, by omega⟩
 have hw : w64 (s.boot + 1) = i + 1 := by rw [hb, w64_in (by omega)]
 rw [hw]
 refine ⟨?_, write_untorn 8 _ h0 h1 16 h.t16, write_untorn 8 _ h0 h1 17 h.t17⟩
 have := (cnt_written s 8 ⟨false, eightB (i + 1)⟩ ⟨true, []⟩ false (Nat.le_refl 8) (by show 0 ≤ (s.cnt 8).n ∧ _; rw [show s.cnt ((8 : Nat) : Int) = s.cnt 8 from rfl, h.cnt]; exact ⟨hi.1, by show i < _; omega⟩) (by rw [eightB_len]; omega)).1
 rw [show s.cnt ((8 : Nat) : Int) = s.cnt 8 from rfl, h.cnt] at this
 rw [Vt.cnt, (write_full 8 _ h0 h1).1]
 exact this
theorem Era.tear {s : Vt} {i : Int} (h : Era s i) (t : List Int) : Era (s.tear t) i := h.congr (tearTo_keep h.t16 18) (tearTo_keep h.t17 18)
theorem Era.again {s : Vt} {i : Int} (h : Era s i) (hi : 0 ≤ i ∧ i < 9223372036854775806) (t : List Int) : Era (s.again t) (i + 1) := (h.tear t).step hi rfl (.inl (by show (-1 : Int) < 0; omega))
theorem again_alive (s : Vt) (t : List Int) : (s.again t).dead = false ∧ (s.again t).left = -1 := by
 have := (write_full (s := s.tear t) 8 ⟨false, eightB (w64 ((s.tear t).boot + 1))⟩ rfl (.inl (by show (-1 : Int) < 0; omega))).1
 rw [Vt.again, this]
 exact ⟨rfl, rfl⟩
theorem tornC_zero (c : Ce) : (tornC c 0).now.l = c.now.l := by
 have e : (if ((c.now.l.length : Nat) : Int) < 0 then ((c.now.l.length : Nat) : Int) else 0).toNat = 0 := by rw [if_neg (by omega)]; rfl
 show catB [_, _] = _
 simp only [catB, catTo, List.length_cons, List.length_nil, List.getD_cons_zero, List.getD_cons_succ]
 rw [e]
 simp
theorem tear_nil {g : Nat → Ce} : ∀ n k, ((tearTo g [] n).1 k).now.l = (g k).now.l ∧ (tearTo g [] n).2 = []
 | 0, k => ⟨rfl, rfl⟩
 | n + 1, k => by
   rw [tearTo]
   have e2 := (tear_nil (g := g) n k).2
   split
   ·dsimp only
    rw [e2]
    refine ⟨?_, rfl⟩
    by_cases hk : k = n
    ·subst hk
     rw [updC_self]
     exact tornC_zero (g k)
    ·rw [updC_ne _ _ hk]; exact (tear_nil n k).1
   ·exact tear_nil n k
theorem Acc.tear_nil {s : Vt} {A : Nat → Option Rec} {T : Int} (h : Acc s A T) : Acc (s.tear []) A T := h.congr fun k _ => (Go.Abs.tear_nil 18 k).1
theorem Acc.tear_no {s : Vt} {A : Nat → Option Rec} {T : Int} (h : Acc s A T) (hn : ∀ k, k < 18 → (s.c k).torn = false) (t : List Int) : Acc (s.tear t) A T := h.congr fun k _ => by
 show ((tearTo s.c t 18).1 k).now.l = _
 rw [tearTo_no 18 hn]
theorem Acc.era {s : Vt} {A : Nat → Option Rec} {T : Int} (h : Acc s A T) (hT : T < 9223372036854775807) (b : By) (hb : b.l.length ≤ 255) (hd : s.dead = false) (hl : s.left < 0 ∨ 2 ≤ s.left) : Acc (s.write 8 b) A (T + 1) := by
 have := (h.write 8 (Nat.le_refl 8) b hb hT hd hl none (.inl rfl)).1
 rw [if_pos rfl] at this
 exact this
theorem Acc.again_nil {s : Vt} {A : Nat → Option Rec} {T : Int} (h : Acc s A T) (hT : T < 9223372036854775807) : Acc (s.again []) A (T + 1) :=
 h.tear_nil.era hT _ (by rw [eightB_len]; omega) rfl (.inl (by show (-1 : Int) < 0; omega))
theorem Acc.again_no {s : Vt} {A : Nat → Option Rec} {T : Int} (h : Acc s A T) (hT : T < 9223372036854775807) (hn : ∀ k, k < 18 → (s.c k).torn = false) (t : List Int) : Acc (s.again t) A (T + 1) :=
 (h.tear_no hn t).era hT _ (by rw [eightB_len]; omega) rfl (.inl (by show (-1 : Int) < 0; omega))
theorem vt0_cnt (n : Nat) (hn : n ≤ 8) : cntTo vt0.c n 2 = (-1, cnt0) := by
 rw [cnt_two _ _ hn]
 have : ∀ i : Int, readOK i (⟨true, []⟩ : By) = false := fun i => rfl
 show cnt2 (readOK _ (⟨true, []⟩ : By)) _ (readOK _ (⟨true, []⟩ : By)) _ = _
 rw [this, this]; rfl
theorem vt0_acc : Acc vt0 (fun _ => none) 0 := by
 refine ⟨fun k r _ h => (by cases h), fun k hk _ => ?_, fun n hn => ?_⟩
 ·show (cntTo vt0.c k 2).2.b.l = []
  rw [vt0_cnt k (by omega)]; rfl
 ·show 0 ≤ (cntTo vt0.c n 2).2.n ∧ (cntTo vt0.c n 2).2.n ≤ 0
  rw [vt0_cnt n hn]; exact ⟨Int.le_refl _, Int.le_refl _⟩
theorem vtN_acc : Acc vtN (fun _ => none) 1 := vt0_acc.era (by omega) ⟨false, eightB 1⟩ (by rw [eightB_len]; omega) rfl (.inl (by show (-1 : Int) < 0; omega))
theorem vtN_era : Era vtN 1 := by
 have hl : vt0.left < 0 ∨ 2 ≤ vt0.left := .inl (by show (-1 : Int) < 0; omega)
 refine ⟨?_, write_untorn (s := vt0) 8 _ rfl hl 16 rfl, write_untorn (s := vt0) 8 _ rfl hl 17 rfl⟩
 have e : vt0.cnt ((8 : Nat) : Int) = cnt0 := by show (cntTo vt0.c (8 : Nat) 2).2 = _; rw [vt0_cnt 8 (Nat.le_refl 8)]
 have := (cnt_written vt0 8 ⟨false, eightB 1⟩ ⟨true, []⟩ false (Nat.le_refl 8) (by rw [e]; exact ⟨Int.le_refl _, by show (0 : Int) < _; omega⟩) (by rw [eightB_len]; omega)).1
 rw [e] at this
 rw [vtN, Vt.cnt, (write_full (s := vt0) 8 _ rfl hl).1]
 exact this
theorem vtN_alive : vtN.dead = false ∧ vtN.left = -1 := by
 have := (write_full (s := vt0) 8 ⟨false, eightB 1⟩ rfl (.inl (by show (-1 : Int) < 0; omega))).1
 rw [vtN, this]
 exact ⟨rfl, rfl⟩
theorem vtN_fine : vtN.fine := write_fine (s := vt0) 8 _ (by omega) (fun k => ⟨Nat.zero_le _, Nat.zero_le _⟩) (by rw [eightB_len]; omega)
theorem vtN_untorn (k : Nat) : (vtN.c k).torn = false := write_untorn (s := vt0) 8 _ rfl (.inl (by show (-1 : Int) < 0; omega)) k rfl
theorem left_put {s : Vt} (r : Rec) : (s.put r).2.left ≤ s.left := by
 by_cases hs : (s.put r).2 = s
 ·rw [hs]; exact Int.le_refl _
 ·obtain ⟨n, hn, e⟩ := put_slot s r hs
  rw [e, Vt.write]
  have h1 := st40_left s (wrAt s n) (wrB s n r.outW)
  split
  ·have h2 : ∀ (x : Vt) (m : Int), (x.st41 m).left ≤ x.left := fun x m => by
    cases h : x.go with
    | true => rw [st41_t h]; show (if 0 < x.left then x.left - 1 else x.left) ≤ x.left; split <;> omega
    | false => rw [st41_f h]; exact Int.le_refl _
   exact Int.le_trans (h2 _ _) h1
  ·exact h1
open Go.Proofs
set_option maxRecDepth 100000

def recV (n : Int) (b : By) : Rec := { recM n [] b with name := lstF nmL (within1 (w64 (n.tdiv 23)) 10).toNat }
theorem nm_in (n : Int) : 0 ≤ within1 n 10 ∧ within1 n 10 < 10 := within1_in (by omega)
theorem nmL_name : ∀ k, k < 10 → nameOK (lstF nmL k) = true := by decide
theorem recV_good (n : Int) (b : By) : (recV n b).good := by
 obtain ⟨h1, h2, h3⟩ := rec_right n [] b
 refine ⟨?_, h2, h3⟩
 have hn := nmL_name (within1 (w64 (n.tdiv 23)) 10).toNat (by have := nm_in (w64 (n.tdiv 23)); omega)
 unfold Rec.ok at h1 ⊢
 simp only [Bool.and_eq_true] at h1 ⊢
 obtain ⟨a1, a2, a3, a4⟩ := h1
 exact ⟨a1, a2, hn, a4⟩
theorem fn13 (n : Int) (b : By) (hb : b.l.length ≤ 1099511627776) : ACalls Tryz.prog 16 [.int n, b.A] [] (fun a h => a = .agg (recV n b).C ∧ h = []) := by
 refine o16.runS [(12, e10), (36, e20), (42, e29)] keep16 0 (fun _ _ _ => L55) (own := false) (kn := 0) (.cons ok10 o12.enter (.cons ok20 o36.enter (.cons ok29 o42.enter .nil))) (Nat.le_of_ble_eq_true rfl) rfl (Nat.le_refl _) (fun Γ hsp hkp hk0 hinv κ hκ => ?_)
 dsimp only [keep16] at hkp
 have hw := nm_in (w64 (n.tdiv 23))
 (repeat (first | ((first | refine RUN.sreg hsp hkp rfl (fun κ__ h__ => ?_) | refine RUN.reg hsp hkp rfl (fun κ__ h__ => ?_)); dsimp only [e10, e20, e29, Rec.C, By.eta, sfn, go_sem, Nat.succ, Int.reduceToNat, Nat.reduceAdd, Nat.reduceMul, Nat.reduceSub, Int.reduceLT, Int.reduceLE, Int.reduceNeg, UInt64.reduceToNat, UInt32.reduceToNat, UInt8.reduceToNat]; subst h__) | refine RUN.block rfl ?_ | refine RUN.skip rfl ?_ | refine RUN.ret rfl ?_ | (refine RUN.exit rfl ?_; dsimp only [xfind, xfB, Nat.beq]) | (refine RUN.seq rfl (fun κ__ h__ => ?_); subst h__) | (refine RUN.cond rfl (p := true) rfl (fun _ => ?_) (fun h__ => by cases h__)) | (refine RUN.cond rfl (p := false) rfl (fun h__ => by cases h__) (fun _ => ?_)) | refine ⟨by first | trivial | omega | (and_intros <;> first | trivial | rfl | omega) | rfl, ?_⟩))
 subst hκ
 dsimp only [leafK, res16, Rec.C, go_sem, Nat.succ, Int.reduceToNat, Nat.reduceAdd, Nat.reduceMul, Nat.reduceSub, Int.reduceLT, Int.reduceLE, Int.reduceNeg, UInt64.reduceToNat, UInt32.reduceToNat, UInt8.reduceToNat]
 and_intros <;> first | rfl | trivial | exact Nat.le_of_ble_eq_true rfl | omega
def e13 : SpE := ⟨true, ev2 intD byD (fun _ b => some (b.l.length ≤ 1099511627776)) fun n b => .agg (recV n b).C⟩
theorem ok13 : SpE.ok Tryz.prog 16 e13 := ev2_ok kInt kBy (fun _ _ => rfl) (fun n b h => fn13 n b h)

def rK : Rec := ⟨1, [97], ⟨true, []⟩, Num.zero, Num.zero, ⟨true, []⟩, 0, 0, 0⟩
theorem rK_good : rK.good := ⟨by decide, by decide, by decide⟩
theorem fn8 : ACalls Tryz.prog 8 [] [] (fun a h => a = .bool true ∧ h = []) := by
 refine o8.runS [(9, e9), (17, e12), (25, e14), (21, e15), (27, e16), (23, e17), (19, e18), (20, e21)] keep8 0 (fun _ _ _ => L55) (own := false) (kn := 0)
  (.cons ok9 o9.enter (.cons ok12 o17.enter (.cons ok14 o25.enter (.cons ok15 o21.enter (.cons ok16 o27.enter (.cons ok17 o23.enter (.cons ok18 o19.enter (.cons ok21 o20.enter .nil)))))))) (Nat.le_of_ble_eq_true rfl) rfl (Nat.le_refl _) (fun Γ hsp hkp hk0 hinv κ hκ => ?_)
 dsimp only [keep8] at hkp
 obtain ⟨p1, p2, p3, p4, p5⟩ := vtN_acc.put rK_good (by omega) vtN_alive.1 (.inl (by rw [vtN_alive.2]; omega)) (n := 0) rfl
 have pf : (vtN.put rK).2.fine := put_fine vtN_fine (Nat.le_trans (out_len rK_good.ok) (by omega))
 have pe := vtN_era.put rK
 refine goGaC10 ?_
 generalize hs : vtN.put _ = p
 have hs : vtN.put rK = p := hs
 rw [hs] at p1 p2 p3 p4 p5 pf pe
 obtain ⟨e, s⟩ := p
 dsimp only at p1 p2 p3 p4 p5 pf pe ⊢
 subst p1
 refine ⟨⟨rfl, pf.low⟩, ?_⟩
 have a1 := p2.again_nil (by omega)
 have a2 := pe.again (by omega) []
 have a3 := a2.boot (by omega)
 obtain ⟨a4, a5⟩ := again_alive s []
 have af := again_fine (t := []) pf
 obtain ⟨d, g1, g2, g3⟩ := p2.get (nm := [97]) (n := 0) (r := rK) rfl rfl
 have g3 : d.name = [97] := g3
 have hn : s.names.1 = 1 := by show (s.nmTo 8).length = 1; rw [p2.nm 8 (Nat.le_refl 8)]; rfl
 obtain ⟨nc, ng⟩ : ∃ x, s.names = x := ⟨_, rfl⟩
 rw [g1]
 generalize s.again [] = s2 at a1 a2 a3 a4 a5 af ⊢
 generalize s.names = nn at hn ⊢
 obtain ⟨n, g⟩ := nn
 dsimp only at hn
 subst hn
 (repeat (first | ((first | refine RUN.sreg hsp hkp rfl (fun κ__ h__ => ?_) | refine RUN.reg hsp hkp rfl (fun κ__ h__ => ?_)); dsimp only [txA, orZR, Option.isSome, e9, e12, e14, e15, e16, e17, e18, e21, evV, vtD, rwD, recD, intlD, allB, not, evL, consG, consO, valG, valO, nilG, nilO, noMore, vtG, vtO, id, rhoC, hsetL, happ, happO, nodupC, inC, appN, Vt.o1, Vt.o2, vR, toCe_vf, By.eta, Ce.eta, Vt.eta, Rec.eta, Num.eta, Rec.C, go_sem, Nat.succ, Int.reduceToNat, Nat.reduceAdd, Nat.reduceMul, Nat.reduceSub, Int.reduceLT, Int.reduceLE, Int.reduceNeg, UInt64.reduceToNat, UInt32.reduceToNat, UInt8.reduceToNat]; subst h__) | refine RUN.block rfl ?_ | refine RUN.skip rfl ?_ | refine RUN.ret rfl ?_ | (refine RUN.exit rfl ?_; dsimp only [xfind, xfB, Nat.beq]) | (refine RUN.seq rfl (fun κ__ h__ => ?_); subst h__) | (refine RUN.cond rfl (p := true) rfl (fun _ => ?_) (fun h__ => by cases h__)) | (refine RUN.cond rfl (p := false) rfl (fun h__ => by cases h__) (fun _ => ?_)) | refine ⟨by first | trivial | omega | (and_intros <;> first | trivial | rfl | omega) | rfl, ?_⟩))
 rw [g3, a3, a4]
 refine fork_intro (fun _ => fork_intro (fun _ => fork_intro (fun _ => ⟨⟨rfl, trivial⟩, fork_intro (fun _ => ⟨⟨rfl, trivial⟩, fork_intro (fun _ => ⟨⟨rfl, af.small⟩, ?_⟩) (fun h => absurd h (by decide))⟩) (fun h => absurd h (by decide))⟩) (fun h => absurd h (by decide))) (fun h => absurd h (by decide))) (fun h => absurd h (by decide))
 refine goGaC10 ?_
 subst hκ
 dsimp only [leafK, res8, go_sem, Nat.succ, Int.reduceToNat, Nat.reduceAdd, Nat.reduceMul, Nat.reduceSub, Int.reduceLT, Int.reduceLE, Int.reduceNeg, UInt64.reduceToNat, UInt32.reduceToNat, UInt8.reduceToNat]
 and_intros <;> first | rfl | trivial | exact Nat.le_of_ble_eq_true rfl | omega
def e8 : SpE := ⟨true, ev0 (.bool true)⟩
theorem ok8 : SpE.ok Tryz.prog 8 e8 := ev0_ok rfl fn8
end Go.Abs
