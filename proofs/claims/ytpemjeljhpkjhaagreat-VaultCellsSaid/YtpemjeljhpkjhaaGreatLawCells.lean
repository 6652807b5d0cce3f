/-
  Own work. Conditions: none. The code of a law in the short form. (Own work; printed by our own program.) The walk of the law VaultCells.
-/
import Derived.Test.YtpemjeljhpkjhaaGreatGaX
set_option linter.unusedVariables false
set_option linter.unusedSimpArgs false
set_option linter.unnecessarySimpa false
namespace Go.Abs
theorem goLawCells1 {P Q : Prop} (k : Q) (h : Hid Q → P := by (refine fun k__ => ?_); (repeat (first | ((first | refine RUN.sreg hsp hkp rfl (fun κ__ h__ => ?_) | refine RUN.reg hsp hkp rfl (fun κ__ h__ => ?_)); dsimp only [e8, e9, eR10, eR11, e10, e17, eR32, evR32, evV, vtD, rwD, recD, intlD, allB, not, evL, consG, consO, valG, valO, nilG, nilO, noMore, vtG, vtO, id, rhoC, hsetL, happ, happO, nodupC, inC, appN, Vt.o1, Vt.o2, vR, toCe_vf, By.eta, Ce.eta, Vt.eta, Rec.eta, Num.eta, Rec.C, sfn, go_sem, Nat.succ, Int.reduceToNat, Nat.reduceAdd, Nat.reduceMul, Nat.reduceSub, Int.reduceLT, Int.reduceLE, Int.reduceNeg, UInt64.reduceToNat, UInt32.reduceToNat, UInt8.reduceToNat]; subst h__) | refine RUN.block rfl ?_ | refine RUN.skip rfl ?_ | refine RUN.ret rfl ?_ | (refine RUN.exit rfl ?_; dsimp only [xfind, xfB, Nat.beq]) | (refine RUN.seq rfl (fun κ__ h__ => ?_); subst h__) | (refine RUN.cond rfl (p := true) rfl (fun _ => ?_) (fun h__ => by cases h__)) | (refine RUN.cond rfl (p := false) rfl (fun h__ => by cases h__) (fun _ => ?_)) | refine ⟨by first | trivial | omega | (and_intros <;> first | trivial | rfl | omega) | rfl, ?_⟩)); exact k__.out) : P := h ⟨k⟩
theorem goLawCells2 {P Q : Prop} (k : Q) (h : Hid Q → P := by (refine fun k__ => ?_); (repeat (first | ((first | refine RUN.sreg hsp hkp rfl (fun κ__ h__ => ?_) | refine RUN.reg hsp hkp rfl (fun κ__ h__ => ?_)); dsimp only [eR29, evR29, eR30, eR31e, eR32, evR32, rwD, sumE, peekL, peekB, abD, allB, not, allR, vf, By.eta, Ce.eta, Int.toNat_natCast, go_sem, Nat.succ, Int.reduceToNat, Nat.reduceAdd, Nat.reduceMul, Nat.reduceSub, Int.reduceLT, Int.reduceLE, Int.reduceNeg, UInt64.reduceToNat, UInt32.reduceToNat, UInt8.reduceToNat]; subst h__) | refine RUN.block rfl ?_ | refine RUN.skip rfl ?_ | refine RUN.ret rfl ?_ | (refine RUN.exit rfl ?_; dsimp only [xfind, xfB, Nat.beq]) | (refine RUN.seq rfl (fun κ__ h__ => ?_); subst h__) | (refine RUN.cond rfl (p := true) rfl (fun _ => ?_) (fun h__ => by cases h__)) | (refine RUN.cond rfl (p := false) rfl (fun h__ => by cases h__) (fun _ => ?_)) | refine ⟨by first | trivial | omega | (and_intros <;> first | trivial | rfl | omega) | rfl, ?_⟩)); exact k__.out) : P := h ⟨k⟩
theorem goLawCells3 {P Q : Prop} (k : Q) (h : Hid Q → P := by (refine fun k__ => ?_); (repeat (first | ((first | refine RUN.sreg hsp hkp rfl (fun κ__ h__ => ?_) | refine RUN.reg hsp hkp rfl (fun κ__ h__ => ?_)); dsimp only [eR32, evR32, rwD, allB, not, toCe_vf, By.eta, Ce.eta, go_sem, Nat.succ, Int.reduceToNat, Nat.reduceAdd, Nat.reduceMul, Nat.reduceSub, Int.reduceLT, Int.reduceLE, Int.reduceNeg, UInt64.reduceToNat, UInt32.reduceToNat, UInt8.reduceToNat]; subst h__) | refine RUN.block rfl ?_ | refine RUN.skip rfl ?_ | refine RUN.ret rfl ?_ | (refine RUN.exit rfl ?_; dsimp only [xfind, xfB, Nat.beq]) | (refine RUN.seq rfl (fun κ__ h__ => ?_); subst h__) | (refine RUN.cond rfl (p := true) rfl (fun _ => ?_) (fun h__ => by cases h__)) | (refine RUN.cond rfl (p := false) rfl (fun h__ => by cases h__) (fun _ => ?_)) | refine ⟨by first | trivial | omega | (and_intros <;> first | trivial | rfl | omega) | rfl, ?_⟩)); exact k__.out) : P := h ⟨k⟩
open Go.Proofs
set_option maxRecDepth 100000
-- sentinel/sentinellaw6.VaultCells
def N6 : Nat := 121
def keep6 : List Nat := [0, 1, 4, 5, 6, 7, 8, 9, 10, 11, 12, 14, 17, 21, 29, 39, 49, 54, 56, 77, 80, 93, 114]
def res6 : List RV := [(.t 4)]
def c6 : CC :=
 (qR [qo 4 (.mov (.c (.bool false)))]
 (.seq (qR [qc 13 8 [], qo 14 (.un .not (.t 13))]
 (.cond (.t 14)
 (qR [qo 4 (.mov (.c (.bool false)))]
 .ret)
 .skip))
 (.seq (qR [qm 15 1, qg 16 15, qb 17 .gtr (.t 16) (.c (.int 60))]
 (.cond (.t 17)
 (qR [qo 4 (.mov (.c (.bool true)))]
 .ret)
 .skip))
 (qR [qc 18 9 [], qc 19 10 [], qm 5 18, qm 6 19]
 (.seq (qR [qm 20 5, qo 21 (.eq false .ptr (.t 20) (.c .nilp))]
 (.cond (.t 21)
 (qR [qo 4 (.mov (.c (.bool false)))]
 .ret)
 .skip))
 (.seq (qR [qj 7 0]
 (.block 0 (.loop (.seq (qR [qm 22 7, qm 23 0, qg 24 23, qb 25 .lss (.t 22) (.t 24), qm 26 25, ⟨(some 27), (.mov (.t 7)), (some (26, true)), 2⟩, ⟨(some 28), (.bin .lss (.t 27) (.c (.int 30))), (some (26, true)), 2⟩, qo 29 (.pick (.t 26) (.t 28) (.c (.bool false)))]
 (.cond (.t 29)
 .skip
 (.exit 0)))
 (.seq (.block 1 (qR [qm 32 0, qm 33 7, qi 34 1 32 33, ql 35 34, qc 36 12 [(.t 35), (.c (.int 1073741824))], qm 8 36]
 (.seq (qR [qm 37 8, qb 38 .rem (.t 37) (.c (.int 12)), qb 39 .geq (.t 38) (.c (.int 8))]
 (.cond (.t 39)
 (.reg [qm 40 8, qm 41 8, qb 42 .rem (.t 41) (.c (.int 12)), qb 43 .sub (.t 40) (.t 42), qm 8 43] [])
 .skip))
 (qR [qm 44 5, qm 45 6, qm 46 8, qm 47 1, qo 48 (.call (.c (.fn 11 [])) [(.t 44), (.t 45), (.t 46), (.t 47), (.c (.sl true 0 0 (.agg []) true))]), qo 49 (.un .not (.t 48))]
 (.cond (.t 49)
 (qR [qo 4 (.mov (.c (.bool false)))]
 .ret)
 .skip)))))
 (.reg [qm 30 7, qb 31 .add (.t 30) (.c (.int 1)), qm 7 31] []))))))
 (qR [qm 50 5, qc 51 23 [(.t 50)], qm 9 51]
 (.seq (qR [qm 52 9, qg 53 52, qo 54 (.eq true .sc (.t 53) (.c (.int 18)))]
 (.cond (.t 54)
 (qR [qo 4 (.mov (.c (.bool false)))]
 .ret)
 .skip))
 (.seq (qR [qj 10 0]
 (.block 2 (.loop (.seq (qR [qm 55 10, qb 56 .lss (.t 55) (.c (.int 18))]
 (.cond (.t 56)
 .skip
 (.exit 2)))
 (.seq (.block 3 (qR [qm 59 9, qm 60 10, qi 61 3 59 60, qf 62 0 61, ql 63 62, qm 11 63]
 (.seq (qR [qm 64 9, qm 65 10, qi 66 3 64 65, qf 67 2 66, ql 68 67, qm 69 68, ⟨(some 70), (.mov (.t 9)), (some (69, false)), 2⟩, ⟨(some 71), (.mov (.t 10)), (some (69, false)), 2⟩, ⟨(some 72), (.iadS 3 (.t 70) (.t 71)), (some (69, false)), 2⟩, ⟨(some 73), (.fad 1 (.t 72)), (some (69, false)), 2⟩, ⟨(some 74), (.load none (.t 73)), (some (69, false)), 2⟩, ⟨(some 75), (.len false (.t 74)), (some (69, false)), 2⟩, ⟨(some 76), (.eq true .sc (.t 75) (.c (.int 0))), (some (69, false)), 2⟩, qo 77 (.pick (.t 69) (.c (.bool true)) (.t 76))]
 (.cond (.t 77)
 (qR [qo 4 (.mov (.c (.bool false)))]
 .ret)
 .skip))
 (.seq (qR [qm 78 11, qg 79 78, qo 80 (.eq false .sc (.t 79) (.c (.int 0)))]
 (.cond (.t 80)
 (.exit 3)
 .skip))
 (.seq (qR [qm 81 11, qg 82 81, qb 83 .lss (.t 82) (.c (.int 25)), qm 84 83, ⟨(some 85), (.mov (.t 11)), (some (84, false)), 2⟩, ⟨(some 86), (.len false (.t 85)), (some (84, false)), 2⟩, ⟨(some 87), (.mov (.t 11)), (some (84, false)), 2⟩, ⟨(some 88), (.iadS 1 (.t 87) (.c (.int 8))), (some (84, false)), 2⟩, ⟨(some 89), (.load none (.t 88)), (some (84, false)), 2⟩, ⟨(some 90), (.conv .u8i (.t 89)), (some (84, false)), 2⟩, ⟨(some 91), (.bin .add (.c (.int 25)) (.t 90)), (some (84, false)), 2⟩, ⟨(some 92), (.eq true .sc (.t 86) (.t 91)), (some (84, false)), 2⟩, qo 93 (.pick (.t 84) (.c (.bool true)) (.t 92))]
 (.cond (.t 93)
 (qR [qo 4 (.mov (.c (.bool false)))]
 .ret)
 .skip))
 (.seq (.alt [qo 94 (.bsl true .u8 1 4 [(.u8 0)] [(0, (1, (.c (.u8 99)))), (1, (1, (.c (.u8 101)))), (2, (1, (.c (.u8 108)))), (3, (1, (.c (.u8 108))))]), ⟨(some 95), (.conv .mark (.t 94)), none, 1⟩, qz 96 10, ⟨(some 97), (.call (.c (.fn 30 [])) [(.t 96)]), none, 0⟩, qz 98 11, qz 99 11, ⟨(some 100), (.len false (.t 99)), none, 0⟩, ⟨(some 101), (.bin .sub (.t 100) (.c (.int 16))), none, 0⟩, ⟨(some 102), (.slcS 1 (.t 98) none (some (.t 101)) none), none, 0⟩, ⟨(some 103), (.bsl false .other 1 3 [(.sl true 0 0 (.agg []) true)] [(0, (1, (.t 95))), (1, (1, (.t 97))), (2, (1, (.t 102)))]), none, 0⟩, ⟨(some 104), (.call (.c (.fn 29 [])) [(.t 103)]), none, 3⟩, qo 12 (.alloc (.agg [(.u8 0), (.u8 0), (.u8 0), (.u8 0), (.u8 0), (.u8 0), (.u8 0), (.u8 0), (.u8 0), (.u8 0), (.u8 0), (.u8 0), (.u8 0), (.u8 0), (.u8 0), (.u8 0)])), ⟨none, (.store (some 16) (.t 12) (.t 104)), none, 2⟩] [] [([qo 12 (.alloc (.agg [(.u8 0), (.u8 0), (.u8 0), (.u8 0), (.u8 0), (.u8 0), (.u8 0), (.u8 0), (.u8 0), (.u8 0), (.u8 0), (.u8 0), (.u8 0), (.u8 0), (.u8 0), (.u8 0)])), qo 94 (.bsl true .u8 1 4 [(.u8 0)] [(0, (1, (.c (.u8 99)))), (1, (1, (.c (.u8 101)))), (2, (1, (.c (.u8 108)))), (3, (1, (.c (.u8 108))))]), ⟨(some 95), (.conv .mark (.t 94)), none, 1⟩, qz 96 10, ⟨(some 97), (.call (.c (.fn 30 [])) [(.t 96)]), none, 0⟩, qz 98 11, qz 99 11, ⟨(some 100), (.len false (.t 99)), none, 0⟩, ⟨(some 101), (.bin .sub (.t 100) (.c (.int 16))), none, 0⟩, ⟨(some 102), (.slcS 1 (.t 98) none (some (.t 101)) none), none, 0⟩, ⟨(some 103), (.bsl false .other 1 3 [(.sl true 0 0 (.agg []) true)] [(0, (1, (.t 95))), (1, (1, (.t 97))), (2, (1, (.t 102)))]), none, 0⟩, ⟨(some 104), (.call (.c (.fn 29 [])) [(.t 103)]), none, 3⟩, ⟨none, (.store (some 16) (.t 12) (.t 104)), none, 2⟩], []), ([qo 94 (.bsl true .u8 1 4 [(.u8 0)] [(0, (1, (.c (.u8 99)))), (1, (1, (.c (.u8 101)))), (2, (1, (.c (.u8 108)))), (3, (1, (.c (.u8 108))))]), qo 12 (.alloc (.agg [(.u8 0), (.u8 0), (.u8 0), (.u8 0), (.u8 0), (.u8 0), (.u8 0), (.u8 0), (.u8 0), (.u8 0), (.u8 0), (.u8 0), (.u8 0), (.u8 0), (.u8 0), (.u8 0)])), ⟨(some 95), (.conv .mark (.t 94)), none, 1⟩, qz 96 10, ⟨(some 97), (.call (.c (.fn 30 [])) [(.t 96)]), none, 0⟩, qz 98 11, qz 99 11, ⟨(some 100), (.len false (.t 99)), none, 0⟩, ⟨(some 101), (.bin .sub (.t 100) (.c (.int 16))), none, 0⟩, ⟨(some 102), (.slcS 1 (.t 98) none (some (.t 101)) none), none, 0⟩, ⟨(some 103), (.bsl false .other 1 3 [(.sl true 0 0 (.agg []) true)] [(0, (1, (.t 95))), (1, (1, (.t 97))), (2, (1, (.t 102)))]), none, 0⟩, ⟨(some 104), (.call (.c (.fn 29 [])) [(.t 103)]), none, 3⟩, ⟨none, (.store (some 16) (.t 12) (.t 104)), none, 2⟩], []), ([qo 94 (.bsl true .u8 1 4 [(.u8 0)] [(0, (1, (.c (.u8 99)))), (1, (1, (.c (.u8 101)))), (2, (1, (.c (.u8 108)))), (3, (1, (.c (.u8 108))))]), ⟨(some 95), (.conv .mark (.t 94)), none, 1⟩, qz 96 10, ⟨(some 97), (.call (.c (.fn 30 [])) [(.t 96)]), none, 0⟩, qz 98 11, qz 99 11, ⟨(some 100), (.len false (.t 99)), none, 0⟩, ⟨(some 101), (.bin .sub (.t 100) (.c (.int 16))), none, 0⟩, ⟨(some 102), (.slcS 1 (.t 98) none (some (.t 101)) none), none, 0⟩, ⟨(some 103), (.bsl false .other 1 3 [(.sl true 0 0 (.agg []) true)] [(0, (1, (.t 95))), (1, (1, (.t 97))), (2, (1, (.t 102)))]), none, 0⟩, qo 12 (.alloc (.agg [(.u8 0), (.u8 0), (.u8 0), (.u8 0), (.u8 0), (.u8 0), (.u8 0), (.u8 0), (.u8 0), (.u8 0), (.u8 0), (.u8 0), (.u8 0), (.u8 0), (.u8 0), (.u8 0)])), ⟨(some 104), (.call (.c (.fn 29 [])) [(.t 103)]), none, 3⟩, ⟨none, (.store (some 16) (.t 12) (.t 104)), none, 2⟩], [])])
 (qR [⟨(some 105), (.load (some 16) (.t 12)), none, 1⟩, ⟨(some 106), (.call (.c (.fn 31 [])) [(.t 105)]), none, 0⟩, ⟨(some 107), (.conv .bstr (.t 106)), none, 1⟩, qz 108 11, qz 109 11, ⟨(some 110), (.len false (.t 109)), none, 0⟩, ⟨(some 111), (.bin .sub (.t 110) (.c (.int 16))), none, 0⟩, ⟨(some 112), (.slcS 1 (.t 108) (some (.t 111)) none none), none, 0⟩, ⟨(some 113), (.conv .bstr (.t 112)), none, 1⟩, ⟨(some 114), (.eq true .sc (.t 107) (.t 113)), none, 0⟩]
 (.cond (.t 114)
 (qR [qo 4 (.mov (.c (.bool false)))]
 .ret)
 .skip))))))))
 (.reg [qm 57 10, qb 58 .add (.t 57) (.c (.int 1)), qm 10 58] []))))))
 (qR [qm 115 9, qm 116 6, qn 117 116, qf 118 0 117, ql 119 118, qc 120 32 [(.t 115), (.t 119)], qm 4 120]
 .ret))))))))))
theorem o6 : FnOK Tryz.prog 6 N6 res6 c6 := mkF [94] (pures ++ [3029]) Tryz.func6
end Go.Abs

namespace Go.Abs
open Go.Proofs
set_option maxRecDepth 100000

theorem fork_boolP {p v : Bool} {F : Bool → Prop} (h : ∀ w : Bool, (w = true → p = true ∧ v = true) → F w) : fork p (F v) (F false) :=
 fork_intro (fun hp => h v fun e => ⟨hp, e⟩) (fun _ => h false fun e => by cases e)
def LR6a (ns : IntL) (b : By) : LI where
 X := Nat × Vt × Vt
 x0 := (0, vtN, vtR)
 pre x := x.1 ≤ 30 ∧ Ply x.2.1 x.2.2 x.1 ∧ Cln x.2.1
 inv x := ([(0, ns.A), (1, b.A), (5, .ptr 1 0 0), (6, .ptr 3 0 0), (7, .int x.1)], [x.2.1.o2, x.2.1.o1 0, x.2.2.o2, x.2.2.o1 2])
 mu x := 30 - x.1
 ren := true
def LR6b (e : AV) (h : List AO) : LI where
 X := Nat
 x0 := 0
 pre k := k ≤ 18
 inv k := ([(5, .ptr 1 0 0), (6, .ptr 3 0 0), (9, e), (10, .int k)], h)
 mu k := 18 - k
 ren := true
def LR6 (ns : IntL) (b : By) (id : Nat) (sl : SL) (h : List AO) : LI := match id with
 | 0 => LR6a ns b
 | _ => LR6b (look sl 9) h
attribute [local irreducible] readR Vt.rfind Vt.rfree Vt.rwrite Vt.rwrOK Vt.rera Vt.put Vt.gone Vt.rput Vt.rgone Vt.get Vt.rget Vt.again Vt.ragain stepV stepX stepR vtN vtR Vt.names Vt.boot Vt.rboot eqTo
set_option maxHeartbeats 20000000 in
theorem fR6 (ns : IntL) (b : By) : ACalls Tryz.prog 6 [ns.A, b.A] [] (fun a h => a = .bool true ∧ h = []) := by
 refine o6.runS [(8, e8), (9, e9), (10, eR10), (11, eR11), (12, e10), (23, e17), (29, eR29), (30, eR30), (31, eR31e), (32, eR32)] keep6 0 (LR6 ns b) (own := false) (kn := 0)
  (.cons ok8 o8.enter (.cons ok9 o9.enter (.cons okR10 o10.enter (.cons okR11 o11.enter (.cons ok10 o12.enter (.cons ok17 o23.enter (.cons okR29 o29.enter (.cons okR30 o30.enter (.cons okR31e o31.enter (.cons okR32 o32.enter .nil)))))))))) (Nat.le_of_ble_eq_true rfl) rfl (Nat.le_refl _) (fun Γ hsp hkp hk0 hinv κ hκ => ?_)
 dsimp only [keep6] at hkp
 dsimp only [IntL.A, By.A]
 refine goLawCells1 ?_
 refine RUN.cond rfl rfl (fun hc => ?_) (fun hc => ?_)
 ·refine goLawCells1 ?_
  rw [hκ]; exact leaf_true rfl
 have hb : b.l.length ≤ 60 := by have := of_decide_eq_false hc; omega
 refine goLawCells1 ?_
 refine RUN.loop hk0 hinv rfl rfl (L := LR6a ns b) rfl rfl rfl ?_ ?_ (fun x hx κ1 h1 => ?_)
 ·dsimp only [LR6a, fits, Vt.o1, Vt.o2, vR, IntL.A, By.A]
  refine ⟨[some 0, some 1, some 2, some 3], rfl, ?_, by first | rfl | trivial, ?_⟩
  ·exact rn
  ·exact rn
 ·exact ⟨Nat.zero_le _, Ply.new, Cln.new⟩
 obtain ⟨i, s, s'⟩ := x
 obtain ⟨hi, hP, hC⟩ := hx
 dsimp only at hi hP hC
 dsimp only [LR6a, Vt.o1, Vt.o2, vR, IntL.A, By.A]
 refine goLawCells1 ?_
 generalize hv : decide ((i : Int) < 30) = v
 apply fork_boolP (v := v)
 intro w hw
 refine RUN.cond rfl rfl (fun hc => ?_) (fun hc => ?_)
 ·obtain ⟨hl, h40⟩ := hw hc
  subst hv
  have hl : i < ns.l.length := by have := of_decide_eq_true hl; omega
  have h40 : i < 30 := by have := of_decide_eq_true h40; omega
  refine goLawCells1 ?_
  refine ⟨Nat.zero_lt_one, ⟨by decide, by decide⟩, ?_⟩
  have hx := within1_in (a := ns.l.getD (i : Int).toNat 0) (b := 1073741824) (by omega)
  have hx : 0 ≤ within1 ([ns.l.getD (i : Int).toNat 0].getD 0 0) 1073741824 ∧ within1 ([ns.l.getD (i : Int).toNat 0].getD 0 0) 1073741824 < 1073741824 := hx
  generalize within1 ([ns.l.getD (i : Int).toNat 0].getD 0 0) 1073741824 = m at hx ⊢
  refine goLawCells1 ?_
  have hmm : m.tmod 12 = m % 12 := Int.tmod_eq_emod_of_nonneg hx.1
  obtain ⟨M, hM⟩ : ∃ M, (if 8 ≤ m.tmod 12 then w64 (m - m.tmod 12) else m) = M := ⟨_, rfl⟩
  have hMx : 0 ≤ M ∧ M < 1073741824 ∧ M.tmod 12 < 8 := by
   rw [← hM]
   split
   ·rw [w64_in (by omega)]
    have : (m - m.tmod 12).tmod 12 = (m - m.tmod 12) % 12 := Int.tmod_eq_emod_of_nonneg (by omega)
    rw [this]; omega
   ·omega
  obtain ⟨p1, p2⟩ := hP.step (by omega) (m := M.tmod 12) (k := M.tdiv 12) ⟨Int.tmod_nonneg _ hMx.1, Int.tmod_lt_of_pos _ (by decide)⟩ (Int.tdiv_nonneg hMx.1 (by decide)) b []
  have p3 := hC.step hMx.2.2 (M.tdiv 12) b []
  have hIn := hP.stepIn ⟨hMx.1, hMx.2.1⟩ hb (t := []) (Nat.zero_le _)
  have wk : w64 ((i : Int) + 1) = ((i + 1 : Nat) : Int) := by rw [w64_in (by omega)]; omega
  generalize hK : RUN Γ _ (RUN Γ _ κ1 _ κ) _ κ = K
  refine RUN.cond rfl rfl (fun h3 => ?_) (fun h3 => ?_)
  all_goals
   refine goLawCells1 ?_
   first
    | rw [show w64 (m - m.tmod 12) = M by rw [← hM, if_pos (of_decide_eq_true h3)]]
    | rw [show AV.int m = AV.int M by rw [← hM, if_neg (of_decide_eq_false h3)]]
   subst hK
   refine goLawCells1 ?_
   rw [p1]
   refine goLawCells1 ?_
   rw [wk]
   generalize stepV s (M.tmod 12) (M.tdiv 12) b [] = s1 at p2 p3 ⊢
   generalize stepX s' (M.tmod 12) (M.tdiv 12) b [] = s1' at p2 ⊢
   subst h1
   dsimp only [loopK, fits, LR6a, Vt.o1, Vt.o2, vR, IntL.A, By.A]
   refine ⟨(i + 1, s1, s1'), ⟨by dsimp only; omega, p2, p3⟩, by dsimp only; omega, [some 0, some 1, some 2, some 3], rfl, ?_, by first | rfl | trivial, ?_⟩
   ·exact rn
   ·exact rn
 ·have hsm := hP.fine.small
  have hfn := hP.fine
  have hE := eqTo_of hP.eqv 18
  have hcell := hC.cell
  clear hP hC h1
  refine goLawCells1 ?_
  refine RUN.loop hk0 hinv rfl rfl (L := LR6b (rowsA s.c) [s.o2, s.o1 0, s'.o2, s'.o1 2]) rfl rfl rfl ?_ ?_ (fun (k : Nat) (hk : k ≤ 18) κ2 h2 => ?_)
  ·dsimp only [LR6b, fits, Vt.o1, Vt.o2, vR, rowsA]
   refine ⟨[some 0, some 1, some 2, some 3], rfl, ?_, by first | rfl | trivial, ?_⟩
   ·exact rn
   ·exact rn
  ·exact Nat.zero_le _
  dsimp only [LR6b, Vt.o1, Vt.o2, vR, rowsA]
  refine goLawCells2 ?_
  refine RUN.cond rfl rfl (fun hc => ?_) (fun hc => ?_)
  ·have hc : k < 18 := by have := of_decide_eq_true hc; omega
   obtain ⟨c1, c2, c3⟩ := hcell k hc
   have wk : w64 ((k : Int) + 1) = ((k + 1 : Nat) : Int) := by rw [w64_in (by omega)]; omega
   refine goLawCells2 ?_
   refine fork_intro (fun h3 => by rw [c1] at h3; cases h3) (fun _ => ⟨by omega, ?_⟩)
   rw [c2]
   refine goLawCells2 ?_
   generalize (s.c k).now.nil = nl
   generalize (s.c k).now.l = l at c3 ⊢
   refine RUN.cond rfl rfl (fun h4 => ?_) (fun h4 => ?_)
   ·refine goLawCells2 ?_
    rw [wk]
    subst h2
    dsimp only [loopK, fits, LR6b, Vt.o1, Vt.o2, vR, rowsA]
    refine ⟨k + 1, by omega, by omega, [some 0, some 1, some 2, some 3], rfl, ?_, by first | rfl | trivial, ?_⟩
    ·exact rn
    ·exact rn
   ·have h4 : l ≠ [] := fun e => by rw [e] at h4; cases h4
    have c4 := c3.resolve_left h4
    obtain ⟨d1, d2⟩ := c4
    have hx : (l.getD 8 0).toNat < 256 := (l.getD 8 0).toNat_lt
    have e1 : w64 (25 + ((l.getD 8 0).toNat : Int)) = ((25 + (l.getD 8 0).toNat : Nat) : Int) := by rw [w64_in (by omega)]; omega
    have w16 : w64 ((l.length : Int) - 16) = ((l.length - 16 : Nat) : Int) := by rw [w64_in (by omega)]; omega
    have h8 := num8_len (k : Int)
    refine goLawCells2 ?_
    refine fork_intro (fun h5 => by have := of_decide_eq_true h5; omega) (fun _ => ⟨by omega, by simp, ?_⟩)
    simp only [List.getD_cons_zero]
    rw [e1]
    refine RUN.cond rfl rfl (fun h5 => ?_) (fun _ => ?_)
    ·exfalso
     rw [← d1, beq_self_eq_true] at h5
     cases h5
    refine goLawCells2 ?_
    refine RUN.alt hsp hkp rfl (fun κ3 k3 => ?_)
    dsimp only [eR29, evR29, eR30, eR31e, eR32, evR32, rwD, sumE, peekL, peekB, abD, allB, not, allR, vf, By.eta, Ce.eta, Int.toNat_natCast, go_sem, Nat.succ, Int.reduceToNat, Nat.reduceAdd, Nat.reduceMul, Nat.reduceSub, Int.reduceLT, Int.reduceLE, Int.reduceNeg, UInt64.reduceToNat, UInt32.reduceToNat, UInt8.reduceToNat]
    rw [w16]
    have hnl : ∀ a b x, spongeB [a, b, ⟨nl, x⟩] = spongeB [a, b, ⟨false, x⟩] := fun a b x => by cases nl <;> rfl
    simp only [List.drop_zero, Int.toNat_natCast, show List.take 4 ([99, 101, 108, 108] : List UInt8) = [99, 101, 108, 108] from rfl, hnl]
    have hsl : (spongeB [⟨false, [99, 101, 108, 108]⟩, ⟨false, num8 (k : Int)⟩, ⟨false, List.take (l.length - 16) l⟩]).length = 16 := rfl
    have hpre : ∀ p ∈ [By.mk false [99, 101, 108, 108], ⟨false, num8 (k : Int)⟩, ⟨nl, List.take (l.length - 16) l⟩], p.l.length ≤ 1099511627 := fun p hp => by
     simp only [List.mem_cons, List.not_mem_nil, or_false] at hp
     rcases hp with rfl | rfl | rfl
     ·show 4 ≤ _; decide
     ·show (num8 (k : Int)).length ≤ _; omega
     ·show (List.take (l.length - 16) l).length ≤ _; rw [List.length_take]; omega
    generalize spongeB [⟨false, [99, 101, 108, 108]⟩, ⟨false, num8 (k : Int)⟩, ⟨false, List.take (l.length - 16) l⟩] = S at hsl d2 ⊢
    refine ⟨?_, ?_, ?_, ?_, trivial⟩
    all_goals
     refine ⟨by decide, by omega, ⟨by decide, ⟨by simp, by simp⟩, hpre⟩, ⟨hsl, hsl⟩, ?_⟩
     subst k3
     (first | refine RUN.sreg hsp hkp rfl (fun κ__ h__ => ?_) | refine RUN.reg hsp hkp rfl (fun κ__ h__ => ?_)); dsimp only [eR29, evR29, eR30, eR31e, eR32, evR32, rwD, sumE, peekL, peekB, abD, allB, not, allR, vf, By.eta, Ce.eta, Int.toNat_natCast, go_sem, Nat.succ, Int.reduceToNat, Nat.reduceAdd, Nat.reduceMul, Nat.reduceSub, Int.reduceLT, Int.reduceLE, Int.reduceNeg, UInt64.reduceToNat, UInt32.reduceToNat, UInt8.reduceToNat]; subst h__
     rw [w16, l16 hsl]
     simp only [Int.toNat_natCast]
     rw [← d2]
     refine ⟨by omega, hsl, by omega, ?_⟩
     refine RUN.cond rfl rfl (fun h6 => by rw [beq_self_eq_true] at h6; cases h6) (fun _ => ?_)
     refine goLawCells2 ?_
     rw [wk]
     subst h2
     dsimp only [loopK, fits, LR6b, Vt.o1, Vt.o2, vR, rowsA]
     refine ⟨k + 1, by omega, by omega, [some 0, some 1, some 2, some 3], rfl, ?_, by first | rfl | trivial, ?_⟩
     ·exact rn
     ·exact rn
  ·refine goLawCells3 ?_
   rw [hE]
   refine goLawCells3 ?_
   rw [hκ]; exact leaf_true rfl
end Go.Abs
