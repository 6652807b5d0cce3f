/-
  Own work. Conditions: none. The code of a law in the short form. (Own work; printed by our own program.) The walk of the law VaultPlays.
-/
import Derived.Test.YtpemjeljhpkjhaaGreatGaJ
set_option linter.unusedVariables false
set_option linter.unusedSimpArgs false
set_option linter.unnecessarySimpa false
namespace Go.Abs
theorem goLawPlays1 {P Q : Prop} (k : Q) (h : Hid Q → P := by (refine fun k__ => ?_); (repeat (first | ((first | refine RUN.sreg hsp hkp rfl (fun κ__ h__ => ?_) | refine RUN.reg hsp hkp rfl (fun κ__ h__ => ?_)); dsimp only [e8, e9, eR10, eR11, e10, eR13, e11, eR15, e13, e12, eR18, evV, vtD, rwD, recD, intlD, allB, not, evL, consG, consO, valG, valO, nilG, nilO, noMore, vtG, vtO, id, rhoC, hsetL, happ, happO, nodupC, inC, appN, Vt.o1, Vt.o2, vR, toCe_vf, By.eta, Ce.eta, Vt.eta, Rec.eta, Num.eta, Rec.C, sfn, go_sem, Nat.succ, Int.reduceToNat, Nat.reduceAdd, Nat.reduceMul, Nat.reduceSub, Int.reduceLT, Int.reduceLE, Int.reduceNeg, UInt64.reduceToNat, UInt32.reduceToNat, UInt8.reduceToNat]; subst h__) | refine RUN.block rfl ?_ | refine RUN.skip rfl ?_ | refine RUN.ret rfl ?_ | (refine RUN.exit rfl ?_; dsimp only [xfind, xfB, Nat.beq]) | (refine RUN.seq rfl (fun κ__ h__ => ?_); subst h__) | (refine RUN.cond rfl (p := true) rfl (fun _ => ?_) (fun h__ => by cases h__)) | (refine RUN.cond rfl (p := false) rfl (fun h__ => by cases h__) (fun _ => ?_)) | refine ⟨by first | trivial | omega | (and_intros <;> first | trivial | rfl | omega) | rfl, ?_⟩)); exact k__.out) : P := h ⟨k⟩
open Go.Proofs
set_option maxRecDepth 100000
-- sentinel/sentinellaw6.VaultPlays
def N3 : Nat := 74
def keep3 : List Nat := [0, 1, 2, 3, 8, 9, 10, 11, 12, 14, 22, 26, 34, 53]
def res3 : List RV := [(.t 8)]
def c3 : CC :=
 (qR [qo 8 (.mov (.c (.bool false)))]
 (.seq (qR [qc 13 8 [], qo 14 (.un .not (.t 13))]
 (.cond (.t 14)
 (qR [qo 8 (.mov (.c (.bool false)))]
 .ret)
 .skip))
 (.seq (qR [qm 15 1, qg 16 15, qb 17 .gtr (.t 16) (.c (.int 60)), qm 18 17, ⟨(some 19), (.mov (.t 2)), (some (18, false)), 2⟩, ⟨(some 20), (.len false (.t 19)), (some (18, false)), 2⟩, ⟨(some 21), (.bin .gtr (.t 20) (.c (.int 10))), (some (18, false)), 2⟩, qo 22 (.pick (.t 18) (.c (.bool true)) (.t 21))]
 (.cond (.t 22)
 (qR [qo 8 (.mov (.c (.bool true)))]
 .ret)
 .skip))
 (qR [qc 23 9 [], qc 24 10 [], qm 9 23, qm 10 24]
 (.seq (qR [qm 25 9, qo 26 (.eq false .ptr (.t 25) (.c .nilp))]
 (.cond (.t 26)
 (qR [qo 8 (.mov (.c (.bool false)))]
 .ret)
 .skip))
 (.seq (qR [qj 11 0]
 (.block 0 (.loop (.seq (qR [qm 27 11, qm 28 0, qg 29 28, qb 30 .lss (.t 27) (.t 29), qm 31 30, ⟨(some 32), (.mov (.t 11)), (some (31, true)), 2⟩, ⟨(some 33), (.bin .lss (.t 32) (.c (.int 60))), (some (31, true)), 2⟩, qo 34 (.pick (.t 31) (.t 33) (.c (.bool false)))]
 (.cond (.t 34)
 .skip
 (.exit 0)))
 (.seq (.block 1 (qR [qm 37 9, qm 38 10, qm 39 0, qm 40 11, qi 41 1 39 40, ql 42 41, qc 43 12 [(.t 42), (.c (.int 1073741824))], qm 44 1, qm 45 2, qc 46 11 [(.t 37), (.t 38), (.t 43), (.t 44), (.t 45)], qo 47 (.un .not (.t 46)), qm 48 47, ⟨(some 49), (.mov (.t 9)), (some (48, false)), 2⟩, ⟨(some 50), (.mov (.t 10)), (some (48, false)), 2⟩, ⟨(some 51), (.call (.c (.fn 13 [])) [(.t 49), (.t 50)]), (some (48, false)), 2⟩, ⟨(some 52), (.un .not (.t 51)), (some (48, false)), 2⟩, qo 53 (.pick (.t 48) (.c (.bool true)) (.t 52))]
 (.cond (.t 53)
 (qR [qo 8 (.mov (.c (.bool false)))]
 .ret)
 .skip)))
 (.reg [qm 35 11, qb 36 .add (.t 35) (.c (.int 1)), qm 11 36] []))))))
 (qR [qm 54 9, qm 55 3, qc 56 14 [(.t 54), (.t 55)]]
 (qR [qm 57 10, qm 58 3, qc 59 15 [(.t 57), (.t 58)]]
 (qR [qm 60 1, qc 61 16 [(.c (.int 7)), (.t 60)], qo 12 (.alloc qv), ⟨none, (.store (some 23) (.t 12) (.t 61)), none, 2⟩]
 (qR [qz 62 9, ⟨(some 63), (.load (some 23) (.t 12)), none, 1⟩, ⟨(some 64), (.call (.c (.fn 17 [])) [(.t 62), (.t 63)]), none, 17⟩, qz 65 10, ⟨(some 66), (.load (some 23) (.t 12)), none, 1⟩, qc 67 18 [(.t 65), (.t 66)], ⟨(some 68), (.eq false .sc (.t 64) (.t 67)), none, 0⟩, qz 69 68, ⟨(some 70), (.mov (.t 9)), (some (69, true)), 0⟩, ⟨(some 71), (.mov (.t 10)), (some (69, true)), 0⟩, ⟨(some 72), (.call (.c (.fn 13 [])) [(.t 70), (.t 71)]), (some (69, true)), 2⟩, ⟨(some 73), (.pick (.t 69) (.t 72) (.c (.bool false))), none, 0⟩, qz 8 73]
 .ret))))))))))
theorem o3 : FnOK Tryz.prog 3 N3 res3 c3 := mkF [] (pures ++ [17017]) Tryz.func3
end Go.Abs

namespace Go.Abs
open Go.Proofs
set_option maxRecDepth 100000

theorem fork_boolP {p v : Bool} {F : Bool → Prop} (h : ∀ w : Bool, (w = true → p = true ∧ v = true) → F w) : fork p (F v) (F false) :=
 fork_intro (fun hp => h v fun e => ⟨hp, e⟩) (fun _ => h false fun e => by cases e)
theorem wf_i64 {n : Int} (h : (Lit.int .i64 n).wf = true) : -9223372036854775808 ≤ n ∧ n ≤ 9223372036854775807 := by
 simp only [Lit.wf, Bool.and_eq_true, decide_eq_true_eq] at h
 have h1 : IntKind.min .i64 = -9223372036854775808 := by decide
 have h2 : IntKind.max .i64 = 9223372036854775807 := by decide
 rw [h1, h2] at h
 exact h
def LR3 (ns : IntL) (b : By) (t : IntL) (raw : Int) : LI where
 X := Nat × Vt × Vt
 x0 := (0, vtN, vtR)
 pre x := x.1 ≤ 60 ∧ Ply x.2.1 x.2.2 x.1
 inv x := ([(0, ns.A), (1, b.A), (2, t.A), (3, .int raw), (9, .ptr 1 0 0), (10, .ptr 3 0 0), (11, .int x.1)], [x.2.1.o2, x.2.1.o1 0, x.2.2.o2, x.2.2.o1 2])
 mu x := 60 - x.1
 ren := true
attribute [local irreducible] readR Vt.rfind Vt.rfree Vt.rwrite Vt.rwrOK Vt.rera Vt.put Vt.gone Vt.rput Vt.rgone Vt.get Vt.rget Vt.again Vt.ragain stepV stepX stepR vtN vtR Vt.rnm Vt.names Vt.boot Vt.rboot
set_option maxHeartbeats 4000000 in
theorem fR3 (ns : IntL) (b : By) (t : IntL) (raw : Int) (hr : -9223372036854775808 ≤ raw ∧ raw ≤ 9223372036854775807) : ACalls Tryz.prog 3 [ns.A, b.A, t.A, .int raw] [] (fun a h => a = .bool true ∧ h = []) := by
 refine o3.runS [(8, e8), (9, e9), (10, eR10), (11, eR11), (12, e10), (13, eR13), (14, e11), (15, eR15), (16, e13), (17, e12), (18, eR18)] keep3 0 (fun _ _ _ => LR3 ns b t raw) (own := false) (kn := 0)
  (.cons ok8 o8.enter (.cons ok9 o9.enter (.cons okR10 o10.enter (.cons okR11 o11.enter (.cons ok10 o12.enter (.cons okR13 o13.enter (.cons ok11 o14.enter (.cons okR15 o15.enter (.cons ok13 o16.enter (.cons ok12 o17.enter (.cons okR18 o18.enter .nil))))))))))) (Nat.le_of_ble_eq_true rfl) rfl (Nat.le_refl _) (fun Γ hsp hkp hk0 hinv κ hκ => ?_)
 dsimp only [keep3] at hkp
 dsimp only [IntL.A, By.A]
 refine goLawPlays1 ?_
 refine fork_intro (fun hc => ?_) (fun hc => ?_)
 ·refine goLawPlays1 ?_
  rw [hκ]; exact leaf_true rfl
 have hb : b.l.length ≤ 60 := by have := of_decide_eq_false hc; omega
 refine RUN.cond rfl rfl (fun hc => ?_) (fun hc => ?_)
 ·refine goLawPlays1 ?_
  rw [hκ]; exact leaf_true rfl
 have ht : t.l.length ≤ 10 := by have := of_decide_eq_false hc; omega
 refine goLawPlays1 ?_
 refine RUN.loop hk0 hinv rfl rfl (L := LR3 ns b t raw) rfl rfl rfl ?_ ?_ (fun x hx κ1 h1 => ?_)
 ·dsimp only [LR3, fits, Vt.o1, Vt.o2, vR, IntL.A, By.A]
  refine ⟨[some 0, some 1, some 2, some 3], rfl, ?_, by first | rfl | trivial, ?_⟩
  ·exact rn
  ·exact rn
 ·exact ⟨Nat.zero_le _, Ply.new⟩
 obtain ⟨i, s, s'⟩ := x
 obtain ⟨hi, hP⟩ := hx
 dsimp only at hi hP
 dsimp only [LR3, Vt.o1, Vt.o2, vR, IntL.A, By.A]
 refine goLawPlays1 ?_
 generalize hv : decide ((i : Int) < 60) = v
 apply fork_boolP (v := v)
 intro w hw
 refine RUN.cond rfl rfl (fun hc => ?_) (fun hc => ?_)
 ·obtain ⟨hl, h40⟩ := hw hc
  subst hv
  have hl : i < ns.l.length := by have := of_decide_eq_true hl; omega
  have h40 : i < 60 := by have := of_decide_eq_true h40; omega
  refine goLawPlays1 ?_
  refine ⟨Nat.zero_lt_one, ⟨by decide, by decide⟩, ?_⟩
  have hx := within1_in (a := ns.l.getD (i : Int).toNat 0) (b := 1073741824) (by omega)
  have hx : 0 ≤ within1 ([ns.l.getD (i : Int).toNat 0].getD 0 0) 1073741824 ∧ within1 ([ns.l.getD (i : Int).toNat 0].getD 0 0) 1073741824 < 1073741824 := hx
  generalize within1 ([ns.l.getD (i : Int).toNat 0].getD 0 0) 1073741824 = n at hx ⊢
  obtain ⟨p1, p2⟩ := hP.step (by omega) (m := n.tmod 12) (k := n.tdiv 12) ⟨Int.tmod_nonneg _ hx.1, Int.tmod_lt_of_pos _ (by decide)⟩ (Int.tdiv_nonneg hx.1 (by decide)) b t.l
  have wk : w64 ((i : Int) + 1) = ((i + 1 : Nat) : Int) := by rw [w64_in (by omega)]; omega
  refine ⟨⟨⟨rfl, rfl⟩, hP.stepIn hx hb ht⟩, fork_intro (fun h => absurd h (by rw [p1]; exact Bool.false_ne_true)) (fun _ => ?_)⟩
  generalize stepV s (n.tmod 12) (n.tdiv 12) b t.l = s1 at p2 ⊢
  generalize stepX s' (n.tmod 12) (n.tdiv 12) b t.l = s1' at p2 ⊢
  refine ⟨⟨⟨rfl, rfl⟩, p2.same (by omega)⟩, ?_⟩
  refine goLawPlays1 ?_
  rw [wk]
  subst h1
  dsimp only [loopK, fits, LR3, Vt.o1, Vt.o2, vR, IntL.A, By.A]
  refine ⟨(i + 1, s1, s1'), ⟨by dsimp only; omega, p2⟩, by dsimp only; omega, [some 0, some 1, some 2, some 3], rfl, ?_, by first | rfl | trivial, ?_⟩
  ·exact rn
  ·exact rn
 ·have hlow : lowV (s.fail raw) (1 + i) := fun k => hP.low k
  have hlow' : (s.fail raw).left ≤ 9223372036854775807 := by show (if raw < -1 then -1 else raw) ≤ _; split <;> omega
  have hE := hP.eqv.fail raw
  have hlow2 : (s'.fail raw).left ≤ 9223372036854775807 := by rw [hE.left]; exact hlow'
  obtain ⟨e, e1, e2, e3⟩ := hP.era
  have ho := recV_good 7 b
  have ho1 : (recV 7 b).outW.l.length ≤ 200 := out_len ho.ok
  have ho2 : (recV 7 b).name.length ≤ 16 := name_len ho.ok
  obtain ⟨q1, q2⟩ := put_both hE hlow (by omega) (recV 7 b)
  have hS := same_of q2 (put_low hlow (by omega) _) (by omega) ((e1.fail raw).put _) ⟨e2, by omega⟩ (put_fine (fail_fine hP.fine) (by omega))
  refine goLawPlays1 ?_
  refine fork_intro (fun _ => ?_) (fun h => by rw [q1] at h; cases h)
  refine ⟨⟨⟨rfl, rfl⟩, hS⟩, ?_⟩
  refine goLawPlays1 ?_
  rw [hκ]
  exact leaf_true rfl
end Go.Abs
