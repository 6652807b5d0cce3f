/-
  Own work. Conditions: none. The code of a law in the short form. (Own work; printed by our own program.) The walk of the law VaultWhole.
-/
import Derived.Test.YtpemjeljhpkjhaaGreatGaK
set_option linter.unusedVariables false
set_option linter.unusedSimpArgs false
set_option linter.unnecessarySimpa false
namespace Go.Abs
theorem goLawWhole1 {P Q : Prop} (k : Q) (h : Hid Q → P := by (refine fun k__ => ?_); (repeat (first | ((first | refine RUN.sreg hsp hkp rfl (fun κ__ h__ => ?_) | refine RUN.reg hsp hkp rfl (fun κ__ h__ => ?_)); dsimp only [e8, e9, eR10, eR11, e10, e11, e13, e12, e22, e16, eR28, e17, eR24, rwD24, e14, e15, e21, e18, e19, evV, vtD, rwD, recD, intlD, allB, not, evL, consG, consO, valG, valO, nilG, nilO, noMore, vtG, vtO, id, rhoC, hsetL, happ, happO, nodupC, inC, appN, Vt.o1, Vt.o2, vR, toCe_vf, By.eta, Ce.eta, Vt.eta, Rec.eta, Num.eta, Rec.C, sfn, txA, go_sem, Nat.succ, Int.reduceToNat, Nat.reduceAdd, Nat.reduceMul, Nat.reduceSub, Int.reduceLT, Int.reduceLE, Int.reduceNeg, UInt64.reduceToNat, UInt32.reduceToNat, UInt8.reduceToNat]; subst h__) | refine RUN.block rfl ?_ | refine RUN.skip rfl ?_ | refine RUN.ret rfl ?_ | (refine RUN.exit rfl ?_; dsimp only [xfind, xfB, Nat.beq]) | (refine RUN.seq rfl (fun κ__ h__ => ?_); subst h__) | (refine RUN.cond rfl (p := true) rfl (fun _ => ?_) (fun h__ => by cases h__)) | (refine RUN.cond rfl (p := false) rfl (fun h__ => by cases h__) (fun _ => ?_)) | refine ⟨by first | trivial | omega | (and_intros <;> first | trivial | rfl | omega) | rfl, ?_⟩)); exact k__.out) : P := h ⟨k⟩
open Go.Proofs
set_option maxRecDepth 100000
-- sentinel/sentinellaw6.VaultWhole
def N4 : Nat := 225
def keep4 : List Nat := [0, 1, 2, 3, 4, 5, 12, 13, 14, 15, 16, 17, 18, 19, 20, 21, 22, 23, 24, 25, 26, 27, 28, 29, 30, 31, 32, 34, 42, 46, 54, 64, 74, 94, 106, 172, 176, 217]
def res4 : List RV := [(.t 12)]
def c4 : CC :=
 (qR [qo 12 (.mov (.c (.bool false)))]
 (.seq (qR [qc 33 8 [], qo 34 (.un .not (.t 33))]
 (.cond (.t 34)
 (qR [qo 12 (.mov (.c (.bool false)))]
 .ret)
 .skip))
 (.seq (qR [qm 35 1, qg 36 35, qb 37 .gtr (.t 36) (.c (.int 60)), qm 38 37, ⟨(some 39), (.mov (.t 5)), (some (38, false)), 2⟩, ⟨(some 40), (.len false (.t 39)), (some (38, false)), 2⟩, ⟨(some 41), (.bin .gtr (.t 40) (.c (.int 10))), (some (38, false)), 2⟩, qo 42 (.pick (.t 38) (.c (.bool true)) (.t 41))]
 (.cond (.t 42)
 (qR [qo 12 (.mov (.c (.bool true)))]
 .ret)
 .skip))
 (qR [qc 43 9 [], qc 44 10 [], qm 13 43, qm 14 44]
 (.seq (qR [qm 45 13, qo 46 (.eq false .ptr (.t 45) (.c .nilp))]
 (.cond (.t 46)
 (qR [qo 12 (.mov (.c (.bool false)))]
 .ret)
 .skip))
 (.seq (qR [qj 15 0]
 (.block 0 (.loop (.seq (qR [qm 47 15, qm 48 0, qg 49 48, qb 50 .lss (.t 47) (.t 49), qm 51 50, ⟨(some 52), (.mov (.t 15)), (some (51, true)), 2⟩, ⟨(some 53), (.bin .lss (.t 52) (.c (.int 30))), (some (51, true)), 2⟩, qo 54 (.pick (.t 51) (.t 53) (.c (.bool false)))]
 (.cond (.t 54)
 .skip
 (.exit 0)))
 (.seq (.block 1 (qR [qm 57 0, qm 58 15, qi 59 1 57 58, ql 60 59, qc 61 12 [(.t 60), (.c (.int 1073741824))], qm 16 61]
 (.seq (qR [qm 62 16, qb 63 .rem (.t 62) (.c (.int 12)), qb 64 .geq (.t 63) (.c (.int 8))]
 (.cond (.t 64)
 (.reg [qm 65 16, qm 66 16, qb 67 .rem (.t 66) (.c (.int 12)), qb 68 .sub (.t 65) (.t 67), qm 16 68] [])
 .skip))
 (qR [qm 69 13, qm 70 14, qm 71 16, qm 72 1, qo 73 (.call (.c (.fn 11 [])) [(.t 69), (.t 70), (.t 71), (.t 72), (.c (.sl true 0 0 (.agg []) true))]), qo 74 (.un .not (.t 73))]
 (.cond (.t 74)
 (qR [qo 12 (.mov (.c (.bool false)))]
 .ret)
 .skip)))))
 (.reg [qm 55 15, qb 56 .add (.t 55) (.c (.int 1)), qm 15 56] []))))))
 (qR [qm 75 2, qc 76 12 [(.t 75), (.c (.int 1073741824))], qm 77 1, qc 78 16 [(.t 76), (.t 77)], qo 17 (.alloc qv), ⟨none, (.store (some 23) (.t 17) (.t 78)), none, 2⟩]
 (qR [qm 80 13, qf 81 1 17, ql 82 81, qc 83 19 [(.t 80), (.t 82)], qm 79 83, qe 84 79 0, qe 85 79 1, qo 18 (.alloc qv), ⟨none, (.store (some 23) (.t 18) (.t 84)), none, 2⟩, qm 19 85]
 (qR [qm 86 13, qc 87 20 [(.t 86)], qm 20 87]
 (qR [qm 88 13, qc 89 21 [(.t 88)], qm 21 89]
 (qR [qm 90 13, qm 91 4, qc 92 12 [(.t 91), (.c (.int 4))], qc 93 14 [(.t 90), (.t 92)]]
 (qR [qj 22 0]
 (.seq (qR [qm 94 3]
 (.cond (.t 94)
 (.reg [qm 95 13, qf 96 1 17, ql 97 96, qc 98 22 [(.t 95), (.t 97)], qm 22 98] [])
 (.reg [qm 99 13, qo 100 (.load (some 23) (.t 17)), qc 101 17 [(.t 99), (.t 100)], qm 22 101] [])))
 (qR [qm 102 13, qc 103 23 [(.t 102)], qm 23 103]
 (.seq (qR [qm 104 23, qm 105 5, qc 106 24 [(.t 104), (.t 105)]]
 (.cond (.t 106)
 (qR [qo 12 (.mov (.c (.bool true)))]
 .ret)
 .skip))
 (qR [qm 107 13, qm 108 5, qc 109 25 [(.t 107), (.t 108)]]
 (qR [qm 111 13, qf 112 1 17, ql 113 112, qc 114 19 [(.t 111), (.t 113)], qm 110 114, qe 115 110 0, qe 116 110 1, qo 24 (.alloc qv), ⟨none, (.store (some 23) (.t 24) (.t 115)), none, 2⟩, qm 25 116]
 (qR [qm 117 25, qm 118 3, qo 119 (.eq true .bool (.t 117) (.t 118)), qm 120 119, ⟨(some 121), (.mov (.t 3)), (some (120, true)), 2⟩, ⟨(some 122), (.mov (.t 121)), (some (120, true)), 2⟩, ⟨(some 123), (.load (some 23) (.t 24)), (some (122, false)), 2⟩, ⟨(some 124), (.load (some 23) (.t 17)), (some (122, false)), 2⟩, ⟨(some 125), (.call (.c (.fn 26 [])) [(.t 123), (.t 124)]), (some (122, false)), 2⟩, ⟨(some 126), (.pick (.t 122) (.c (.bool true)) (.t 125)), (some (120, true)), 2⟩, qo 127 (.pick (.t 120) (.t 126) (.c (.bool false))), qm 26 127]
 (qR [qm 128 25, qm 129 19, qo 130 (.eq false .bool (.t 128) (.t 129)), qm 131 130, ⟨(some 132), (.load (some 23) (.t 24)), (some (131, true)), 2⟩, ⟨(some 133), (.load (some 23) (.t 18)), (some (131, true)), 2⟩, ⟨(some 134), (.call (.c (.fn 26 [])) [(.t 132), (.t 133)]), (some (131, true)), 2⟩, qo 135 (.pick (.t 131) (.t 134) (.c (.bool false))), qm 27 135]
 (.seq (qR [qm 136 26, qo 137 (.un .not (.t 136)), qm 138 137, ⟨(some 139), (.mov (.t 27)), (some (138, true)), 2⟩, ⟨(some 140), (.un .not (.t 139)), (some (138, true)), 2⟩, qo 141 (.pick (.t 138) (.t 140) (.c (.bool false))), qm 142 141, ⟨(some 143), (.mov (.t 22)), (some (142, false)), 2⟩, ⟨(some 144), (.eq false .sc (.t 143) (.c (.int 0))), (some (142, false)), 2⟩, ⟨(some 145), (.mov (.t 144)), (some (142, false)), 2⟩, ⟨(some 146), (.mov (.t 26)), (some (145, true)), 2⟩, ⟨(some 147), (.un .not (.t 146)), (some (145, true)), 2⟩, ⟨(some 148), (.pick (.t 145) (.t 147) (.c (.bool false))), (some (142, false)), 2⟩, qo 149 (.pick (.t 142) (.c (.bool true)) (.t 148)), qm 150 149, ⟨(some 151), (.mov (.t 22)), (some (150, false)), 2⟩, ⟨(some 152), (.eq true .sc (.t 151) (.c (.int 0))), (some (150, false)), 2⟩, ⟨(some 153), (.mov (.t 152)), (some (150, false)), 2⟩, ⟨(some 154), (.mov (.t 22)), (some (153, true)), 2⟩, ⟨(some 155), (.eq true .sc (.t 154) (.c (.int 10))), (some (153, true)), 2⟩, ⟨(some 156), (.pick (.t 153) (.t 155) (.c (.bool false))), (some (150, false)), 2⟩, ⟨(some 157), (.mov (.t 156)), (some (150, false)), 2⟩, ⟨(some 158), (.mov (.t 27)), (some (157, true)), 2⟩, ⟨(some 159), (.un .not (.t 158)), (some (157, true)), 2⟩, ⟨(some 160), (.pick (.t 157) (.t 159) (.c (.bool false))), (some (150, false)), 2⟩, qo 161 (.pick (.t 150) (.c (.bool true)) (.t 160)), qm 162 161, ⟨(some 163), (.mov (.t 13)), (some (162, false)), 2⟩, ⟨(some 164), (.call (.c (.fn 21 [])) [(.t 163)]), (some (162, false)), 2⟩, ⟨(some 165), (.mov (.t 21)), (some (162, false)), 2⟩, ⟨(some 166), (.bin .add (.t 165) (.c (.int 1))), (some (162, false)), 2⟩, ⟨(some 167), (.eq true .sc (.t 164) (.t 166)), (some (162, false)), 2⟩, qo 168 (.pick (.t 162) (.c (.bool true)) (.t 167)), qm 169 168, ⟨(some 170), (.mov (.t 13)), (some (169, false)), 2⟩, ⟨(some 171), (.call (.c (.fn 27 [])) [(.t 170)]), (some (169, false)), 2⟩, qo 172 (.pick (.t 169) (.c (.bool true)) (.t 171))]
 (.cond (.t 172)
 (qR [qo 12 (.mov (.c (.bool false)))]
 .ret)
 .skip))
 (.seq (qR [qj 28 0]
 (.block 2 (.loop (.seq (qR [qm 173 28, qm 174 20, qg 175 174, qb 176 .lss (.t 173) (.t 175)]
 (.cond (.t 176)
 .skip
 (.exit 2)))
 (.seq (.block 3 (qR [qm 180 13, qm 181 20, qm 182 28, qi 183 1 181 182, ql 184 183, qc 185 19 [(.t 180), (.t 184)], qm 179 185, qe 186 179 0, qe 187 179 1, qo 29 (.alloc qv), ⟨none, (.store (some 23) (.t 29) (.t 186)), none, 2⟩, qm 30 187]
 (qR [qm 189 14, qm 190 20, qm 191 28, qi 192 1 190 191, ql 193 192, qc 194 28 [(.t 189), (.t 193)], qm 188 194, qe 195 188 0, qe 196 188 1, qo 31 (.alloc qv), ⟨none, (.store (some 23) (.t 31) (.t 195)), none, 2⟩, qm 32 196]
 (qR [qz 197 20, qz 198 28, ⟨(some 199), (.iadS 1 (.t 197) (.t 198)), none, 1⟩, qk 200 199, ⟨(some 201), (.fad 1 (.t 17)), none, 0⟩, qk 202 201, ⟨(some 203), (.eq true .sc (.t 200) (.t 202)), none, 0⟩, qz 204 203, ⟨(some 205), (.mov (.t 30)), (some (204, true)), 0⟩, ⟨(some 206), (.un .not (.t 205)), (some (204, true)), 0⟩, ⟨(some 207), (.mov (.t 206)), (some (204, true)), 0⟩, ⟨(some 208), (.mov (.t 32)), (some (207, false)), 0⟩, ⟨(some 209), (.un .not (.t 208)), (some (207, false)), 0⟩, ⟨(some 210), (.pick (.t 207) (.c (.bool true)) (.t 209)), (some (204, true)), 0⟩, ⟨(some 211), (.mov (.t 210)), (some (204, true)), 0⟩, ⟨(some 212), (.load (some 23) (.t 29)), (some (211, false)), 1⟩, ⟨(some 213), (.load (some 23) (.t 31)), (some (211, false)), 1⟩, ⟨(some 214), (.call (.c (.fn 26 [])) [(.t 212), (.t 213)]), (some (211, false)), 0⟩, ⟨(some 215), (.un .not (.t 214)), (some (211, false)), 0⟩, ⟨(some 216), (.pick (.t 211) (.c (.bool true)) (.t 215)), (some (204, true)), 0⟩, ⟨(some 217), (.pick (.t 204) (.t 216) (.c (.bool false))), none, 0⟩]
 (.cond (.t 217)
 (qR [qo 12 (.mov (.c (.bool false)))]
 .ret)
 .skip)))))
 (.reg [qm 177 28, qb 178 .add (.t 177) (.c (.int 1)), qm 28 178] []))))))
 (qR [qm 218 13, qc 219 20 [(.t 218)], qg 220 219, qm 221 20, qg 222 221, qb 223 .add (.t 222) (.c (.int 1)), qb 224 .leq (.t 220) (.t 223), qm 12 224]
 .ret))))))))))))))))))))))
theorem o4 : FnOK Tryz.prog 4 N4 res4 c4 := mkF [] pures Tryz.func4
end Go.Abs

namespace Go.Abs
open Go.Proofs
set_option maxRecDepth 100000

theorem fork_boolP {p v : Bool} {F : Bool → Prop} (h : ∀ w : Bool, (w = true → p = true ∧ v = true) → F w) : fork p (F v) (F false) :=
 fork_intro (fun hp => h v fun e => ⟨hp, e⟩) (fun _ => h false fun e => by cases e)
theorem forkD {i g sm : Bool} {X : Prop} {F : Bool → Prop} (hX : X = F true) (h : F ((i != g) && (g || sm))) : fork (match i == g with | true => false | false => true) (fork g X (F sm)) (F false) := by
 subst hX
 cases i <;> cases g <;> exact h
theorem forkN {i w sm : Bool} {F : Bool → Prop} (h : F ((i == w) && sm)) : fork (i == w) (F sm) (F false) := by
 cases i <;> cases w <;> exact h
theorem joinV {cond : Int → Vt → Prop} {P : Int → Vt → Prop} {Z : Prop} (h : (∀ E s2, cond E s2 → P E s2) → Z) (k : ∀ E s2, cond E s2 → P E s2) : Z := h k
theorem joinP {Q Z : Prop} (h : Hid Q → Z) (k : Q) : Z := h ⟨k⟩
def nbB (b : Bool) : Bool := match b with | true => false | false => true
theorem ask1 {D N : Bool} {e : Int} (h1 : nbB D = true) (h2 : nbB N = true) : ¬ askB D N e = false := by
 cases D <;> cases N <;> first | cases h1; done | cases h2; done | exact fun h => by cases h
theorem ask2 {D N : Bool} {e : Int} (h1 : (e == 0) = true) (h2 : nbB D = true) : ¬ askB D N e = false := by
 unfold askB
 rw [h1]
 cases D <;> cases N <;> first | cases h2; done | exact fun h => by cases h
theorem ask3 {D N : Bool} {e : Int} (h1 : nbB (e == 0) = true) (h2 : nbB (e == 10) = true) (h3 : nbB N = true) : ¬ askB D N e = false := by
 unfold askB
 generalize (e == 0) = a at h1 ⊢
 generalize (e == 10) = b at h2 ⊢
 cases D <;> cases N <;> cases a <;> cases b <;> first | cases h1; done | cases h2; done | cases h3; done | exact fun h => by cases h
def LR4a (ns : IntL) (b : By) (n : Int) (g : Bool) (fail : Int) (cuts : IntL) : LI where
 X := Nat × Vt × Vt
 x0 := (0, vtN, vtR)
 pre x := x.1 ≤ 30 ∧ Ply x.2.1 x.2.2 x.1 ∧ Whl x.2.1 x.1
 inv x := ([(0, ns.A), (1, b.A), (2, .int n), (3, .bool g), (4, .int fail), (5, cuts.A), (13, .ptr 1 0 0), (14, .ptr 3 0 0), (15, .int x.1)], [x.2.1.o2, x.2.1.o1 0, x.2.2.o2, x.2.2.o1 2])
 mu x := 30 - x.1
 ren := true
def LR4b (sl : SL) (h : List AO) : LI where
 X := Nat
 x0 := 0
 pre k := k ≤ 8
 inv k := ([(13, look sl 13), (14, look sl 14), (17, look sl 17), (20, look sl 20), (28, .int k)], h)
 mu k := 8 - k
 ren := true
def LR4 (ns : IntL) (b : By) (n : Int) (g : Bool) (fail : Int) (cuts : IntL) (id : Nat) (sl : SL) (h : List AO) : LI := match id with
 | 0 => LR4a ns b n g fail cuts
 | _ => LR4b sl h
def Told (s s3 : Vt) (r : Rec) (g : Bool) (E : Int) : Prop :=
 askB (doneB g (s3.get r.name).isSome (orZR (s3.get r.name)) r) (notB (s3.get r.name).isSome (s.get r.name).isSome (orZR (s3.get r.name)) (orZR (s.get r.name))) E = false ∧
 (∀ a, a ≠ r.name → (s3.get a).isSome = (s.get a).isSome ∧ (orZR (s3.get a)).norm = (orZR (s.get a)).norm) ∧ s3.names.1 ≤ s.names.1 + 1
attribute [local irreducible] readR Vt.rfind Vt.rfree Vt.rwrite Vt.rwrOK Vt.rera Vt.put Vt.gone Vt.rput Vt.rgone Vt.get Vt.rget Vt.again Vt.ragain stepV stepX stepR vtN vtR Vt.names Vt.boot Vt.rboot clashTo Rec.same
set_option maxHeartbeats 20000000 in
theorem fR4 (ns : IntL) (b : By) (n : Int) (g : Bool) (fail : Int) (cuts : IntL) : ACalls Tryz.prog 4 [ns.A, b.A, .int n, .bool g, .int fail, cuts.A] [] (fun a h => a = .bool true ∧ h = []) := by
 refine o4.runS [(8, e8), (9, e9), (10, eR10), (11, eR11), (12, e10), (14, e11), (16, e13), (17, e12), (22, e22), (23, e17), (24, eR24), (25, e14), (21, e15), (20, e21), (19, e18), (28, eR28), (26, e19), (27, e16)] keep4 0 (LR4 ns b n g fail cuts) (own := false) (kn := 0)
  (.cons ok8 o8.enter (.cons ok9 o9.enter (.cons okR10 o10.enter (.cons okR11 o11.enter (.cons ok10 o12.enter (.cons ok11 o14.enter (.cons ok13 o16.enter (.cons ok12 o17.enter (.cons ok22 o22.enter (.cons ok17 o23.enter (.cons okR24 o24.enter (.cons ok14 o25.enter (.cons ok15 o21.enter (.cons ok21 o20.enter (.cons ok18 o19.enter (.cons okR28 o28.enter (.cons ok19 o26.enter (.cons ok16 o27.enter .nil)))))))))))))))))) (Nat.le_of_ble_eq_true rfl) rfl (Nat.le_refl _) (fun Γ hsp hkp hk0 hinv κ hκ => ?_)
 dsimp only [keep4] at hkp
 dsimp only [IntL.A, By.A]
 refine goLawWhole1 ?_
 refine fork_intro (fun hc => ?_) (fun hc => ?_)
 ·refine goLawWhole1 ?_
  rw [hκ]; exact leaf_true rfl
 have hb : b.l.length ≤ 60 := by have := of_decide_eq_false hc; omega
 refine RUN.cond rfl rfl (fun hc => ?_) (fun hc => ?_)
 ·refine goLawWhole1 ?_
  rw [hκ]; exact leaf_true rfl
 refine goLawWhole1 ?_
 refine RUN.loop hk0 hinv rfl rfl (L := LR4a ns b n g fail cuts) rfl rfl rfl ?_ ?_ (fun x hx κ1 h1 => ?_)
 ·dsimp only [LR4a, fits, Vt.o1, Vt.o2, vR, IntL.A, By.A]
  refine ⟨[some 0, some 1, some 2, some 3], rfl, ?_, by first | rfl | trivial, ?_⟩
  ·exact rn
  ·exact rn
 ·exact ⟨Nat.zero_le _, Ply.new, Whl.new⟩
 obtain ⟨i, s, s'⟩ := x
 obtain ⟨hi, hP, hW⟩ := hx
 dsimp only at hi hP hW
 dsimp only [LR4a, Vt.o1, Vt.o2, vR, IntL.A, By.A]
 refine goLawWhole1 ?_
 generalize hv : decide ((i : Int) < 30) = v
 apply fork_boolP (v := v)
 intro w hw
 refine RUN.cond rfl rfl (fun hc => ?_) (fun hc => ?_)
 ·obtain ⟨hl, h40⟩ := hw hc
  subst hv
  have hl : i < ns.l.length := by have := of_decide_eq_true hl; omega
  have h40 : i < 30 := by have := of_decide_eq_true h40; omega
  refine goLawWhole1 ?_
  refine ⟨Nat.zero_lt_one, ⟨by decide, by decide⟩, ?_⟩
  have hx := within1_in (a := ns.l.getD (i : Int).toNat 0) (b := 1073741824) (by omega)
  have hx : 0 ≤ within1 ([ns.l.getD (i : Int).toNat 0].getD 0 0) 1073741824 ∧ within1 ([ns.l.getD (i : Int).toNat 0].getD 0 0) 1073741824 < 1073741824 := hx
  generalize within1 ([ns.l.getD (i : Int).toNat 0].getD 0 0) 1073741824 = m at hx ⊢
  refine goLawWhole1 ?_
  have hmm : m.tmod 12 = m % 12 := Int.tmod_eq_emod_of_nonneg hx.1
  obtain ⟨M, hM⟩ : ∃ M, (if 8 ≤ m.tmod 12 then w64 (m - m.tmod 12) else m) = M := ⟨_, rfl⟩
  have hMx : (0 ≤ M ∧ M < 1073741824) ∧ M % 12 < 8 := by
   rw [← hM]
   split
   ·rw [w64_in (by omega)]; omega
   ·omega
  obtain ⟨hMx, hM8⟩ := hMx
  have hM8 : M.tmod 12 < 8 := by rw [Int.tmod_eq_emod_of_nonneg hMx.1]; exact hM8
  obtain ⟨p1, p2⟩ := hP.step (by omega) (m := M.tmod 12) (k := M.tdiv 12) ⟨Int.tmod_nonneg _ hMx.1, Int.tmod_lt_of_pos _ (by decide)⟩ (Int.tdiv_nonneg hMx.1 (by decide)) b []
  have p3 := hW.step (by omega) hM8 (M.tdiv 12) b []
  have hIn := hP.stepIn hMx hb (t := []) (Nat.zero_le _)
  have wk : w64 ((i : Int) + 1) = ((i + 1 : Nat) : Int) := by rw [w64_in (by omega)]; omega
  generalize hK : RUN Γ _ (RUN Γ _ κ1 _ κ) _ κ = K
  refine RUN.cond rfl rfl (fun h3 => ?_) (fun h3 => ?_)
  all_goals
   refine goLawWhole1 ?_
   first
    | rw [show w64 (m - m.tmod 12) = M by rw [← hM, if_pos (of_decide_eq_true h3)]]
    | rw [show AV.int m = AV.int M by rw [← hM, if_neg (of_decide_eq_false h3)]]
   subst hK
   refine goLawWhole1 ?_
   rw [p1]
   refine goLawWhole1 ?_
   rw [wk]
   generalize stepV s (M.tmod 12) (M.tdiv 12) b [] = s1 at p2 p3 ⊢
   generalize stepX s' (M.tmod 12) (M.tdiv 12) b [] = s1' at p2 ⊢
   subst h1
   dsimp only [loopK, fits, LR4a, Vt.o1, Vt.o2, vR, IntL.A, By.A]
   refine ⟨(i + 1, s1, s1'), ⟨by dsimp only; omega, p2, p3⟩, by dsimp only; omega, [some 0, some 1, some 2, some 3], rfl, ?_, by first | rfl | trivial, ?_⟩
   ·exact rn
   ·exact rn
 ·obtain ⟨e, e1, e2, e3⟩ := hP.era
  have hf := within1_in (a := fail) (b := 4) (by omega)
  have ho := recV_good (within1 n 1073741824) b
  have ho1 : (recV (within1 n 1073741824) b).outW.l.length ≤ 200 := out_len ho.ok
  have hl0 : (s.fail (within1 fail 4)).left ≤ 9223372036854775807 := by show (if within1 fail 4 < -1 then -1 else within1 fail 4) ≤ _; split <;> omega
  have hf0 := fail_fine (n := within1 fail 4) hP.fine
  have he0 := e1.fail (within1 fail 4)
  have hbt := e1.boot ⟨e2, by omega⟩
  refine goLawWhole1 ?_
  generalize recV (within1 n 1073741824) b = r at ho ho1 ⊢
  generalize within1 fail 4 = f at hf hl0 hf0 he0 ⊢
  have hqT : g = true → (clashTo ((s.fail f).gone r.name).2.c cuts.l 18 = false → Told s (((s.fail f).gone r.name).2.again cuts.l) r g ((s.fail f).gone r.name).1) ∧ ((s.fail f).gone r.name).2.fine ∧ Era ((s.fail f).gone r.name).2 e := fun hg => by
   subst hg
   refine ⟨fun h => ?_, gone_fine hf0, he0.gone _⟩
   obtain ⟨A, A', T, T', a1, a2, a3⟩ := whole_gone hW (by omega) r.name hf.1 cuts.l h
   exact ⟨ask_gone a1 a2 a3, fun a ha => out_other a1 a2 a3 (fun q h => by cases h) ha, out_names a1 a2 a3⟩
  have hqF : g = false → (clashTo ((s.fail f).put r).2.c cuts.l 18 = false → Told s (((s.fail f).put r).2.again cuts.l) r g ((s.fail f).put r).1) ∧ ((s.fail f).put r).2.fine ∧ Era ((s.fail f).put r).2 e := fun hg => by
   subst hg
   refine ⟨fun h => ?_, put_fine hf0 (by omega), he0.put _⟩
   obtain ⟨A, A', T, T', a1, a2, a3⟩ := whole_put hW (by omega) ho hf.1 cuts.l h
   exact ⟨ask_put a1 a2 a3, fun a ha => out_other a1 a2 a3 (fun q h => by cases h; rfl) ha, out_names a1 a2 a3⟩
  apply joinV (cond := fun E s2 => (clashTo s2.c cuts.l 18 = false → Told s (s2.again cuts.l) r g E) ∧ s2.fine ∧ Era s2 e)
  case h =>
   intro k
   refine RUN.cond rfl rfl (fun hg => ?_) (fun hg => ?_)
   all_goals
    first | replace hqT := hqT hg | replace hqF := hqF hg
    refine goLawWhole1 ?_
    have key : ∃ E s2, (s.fail f).gone r.name = (E, s2) ∧ g = true ∧ (clashTo s2.c cuts.l 18 = false → Told s (s2.again cuts.l) r g E) ∧ s2.fine ∧ Era s2 e ∨ (s.fail f).put r = (E, s2) ∧ g = false ∧ (clashTo s2.c cuts.l 18 = false → Told s (s2.again cuts.l) r g E) ∧ s2.fine ∧ Era s2 e := by
     first | exact ⟨_, _, .inl ⟨rfl, hg, hqT⟩⟩ | exact ⟨_, _, .inr ⟨rfl, hg, hqF⟩⟩
    obtain ⟨E, s2, ⟨hp, hg', hq, hq1, hq2⟩ | ⟨hp, hg', hq, hq1, hq2⟩⟩ := key
    all_goals first | (exfalso; rw [hg] at hg'; cases hg'; done) | (rw [hp]; exact k E s2 ⟨hq, hq1, hq2⟩)
  case k =>
   intro E s2 hq
   obtain ⟨hq, hq1, hq2⟩ := hq
   clear hqT hqF
   refine ⟨⟨rfl, hq1.small⟩, ?_⟩
   refine goLawWhole1 ?_
   refine RUN.cond rfl rfl (fun hcl => ?_) (fun hcl => ?_)
   ·refine goLawWhole1 ?_
    rw [hκ]; exact leaf_true rfl
   have hq := hq hcl
   have hlow := hq1.low
   have hq3 := again_fine (t := cuts.l) hq1
   have he3 := hq2.again ⟨e2, by omega⟩ cuts.l
   have hd3 : (s2.again cuts.l).dead = false := (again_alive s2 cuts.l).1
   refine goLawWhole1 ?_
   generalize s2.again cuts.l = s3 at hq hq3 he3 hd3 ⊢
   obtain ⟨q1, q2, q3⟩ := hq
   have hb3 := he3.boot ⟨by omega, by omega⟩
   have hnm := names_le s
   have hnm3 := names_le s3
   refine goLawWhole1 ?_
   unfold doneB notB at q1
   generalize Rec.same (orZR (s3.get r.name)) r = sm at q1 ⊢
   apply forkD (sm := sm)
   case hX => exact rfl
   generalize ((s3.get r.name).isSome != g && (g || sm)) = D at q1 ⊢
   refine goLawWhole1 ?_
   generalize Rec.same (orZR (s3.get r.name)) (orZR (s.get r.name)) = sm2 at q1 ⊢
   apply forkN (sm := sm2)
   generalize ((s3.get r.name).isSome == (s.get r.name).isSome && sm2) = N at q1 ⊢
   have wb : (s3.boot == w64 (s.boot + 1)) = true := by rw [hbt, hb3, w64_in (by omega), beq_self_eq_true]
   apply joinP
   case h =>
    intro k
    refine goLawWhole1 ?_
    rw [wb]
    dsimp only
    repeat' (first | (with_reducible refine fork_intro (fun _ => ?_) (fun _ => ?_)) | (with_reducible refine And.intro (And.intro rfl trivial) ?_) | fail)
    all_goals first | exact absurd q1 (ask1 (by assumption) (by assumption)) | exact absurd q1 (ask2 (by assumption) (by assumption)) | exact absurd q1 (ask3 (by assumption) (by assumption) (by assumption)) | (exfalso; exact Bool.false_ne_true (by assumption)) | exact k.out
   case k =>
    refine RUN.cond rfl rfl (fun h => absurd h (by rw [hd3]; exact Bool.false_ne_true)) (fun _ => ?_)
    refine goLawWhole1 ?_
    refine RUN.loop hk0 hinv rfl rfl (L := LR4b _ _) rfl rfl rfl ?_ ?_ (fun (q : Nat) (hq : q ≤ 8) κ2 h2 => ?_)
    ·dsimp only [LR4b, fits, look, lookB, Nat.beq]
     refine ⟨[some 0, some 1, some 2, some 3, some 4, some 5, some 6], rfl, ?_, by first | rfl | trivial, ?_⟩
     ·exact rn
     ·exact rn
    ·exact Nat.zero_le _
    dsimp only [LR4b, look, lookB, Nat.beq]
    refine goLawWhole1 ?_
    refine RUN.cond rfl rfl (fun h3 => ?_) (fun h3 => ?_)
    ·have h3 : q < s.names.1 := by have := of_decide_eq_true h3; omega
     have wq : w64 ((q : Int) + 1) = ((q + 1 : Nat) : Int) := by rw [w64_in (by omega)]; omega
     have hg1 := name_get h3
     refine goLawWhole1 ?_
     simp only [Int.toNat_natCast]
     have hgs := get_both hP.eqv hP.low (by omega) (s.names.2 q)
     generalize hn : s.names.2 q = a at hg1 hgs ⊢
     refine fork_intro (fun h => ?_) (fun h => ?_)
     ·have ha : a ≠ r.name := fun e => by rw [e, beq_self_eq_true] at h; cases h
      obtain ⟨g1, g2⟩ := q2 a ha
      have i3 := g1.trans hg1
      have i4 := hgs.1.trans hg1
      have sm := (rec_same_norm _ _).2 (g2.trans hgs.2.symm)
      refine fork_intro (fun h => absurd h (by rw [i3]; exact Bool.false_ne_true)) (fun _ => ?_)
      refine fork_intro (fun h => absurd h (by rw [i4]; exact Bool.false_ne_true)) (fun _ => ?_)
      refine RUN.cond rfl rfl (fun h => absurd h (by rw [show Rec.same _ _ = true from sm]; exact Bool.false_ne_true)) (fun _ => ?_)
      refine goLawWhole1 ?_
      rw [wq]
      subst h2
      dsimp only [loopK, fits, LR4b, look, lookB, Nat.beq]
      refine ⟨q + 1, by omega, by omega, [some 0, some 1, some 2, some 3, some 4, some 5, some 6], rfl, ?_, by first | rfl | trivial, ?_⟩
      ·exact rn
      ·exact rn
     ·refine goLawWhole1 ?_
      rw [wq]
      subst h2
      dsimp only [loopK, fits, LR4b, look, lookB, Nat.beq]
      refine ⟨q + 1, by omega, by omega, [some 0, some 1, some 2, some 3, some 4, some 5, some 6], rfl, ?_, by first | rfl | trivial, ?_⟩
      ·exact rn
      ·exact rn
    ·refine goLawWhole1 ?_
     have w1 : w64 ((s.names.1 : Int) + 1) = ((s.names.1 + 1 : Nat) : Int) := by rw [w64_in (by omega)]; omega
     rw [w1, show decide ((s3.names.1 : Int) ≤ ((s.names.1 + 1 : Nat) : Int)) = true from decide_eq_true (by omega), hκ]
     exact leaf_true rfl
end Go.Abs
