/-
  Own work. Conditions: none. The code of a law in the short form. (Own work; printed by our own program.) The walk of the law VaultTwice.
-/
import Derived.Test.YtpemjeljhpkjhaaGreatGaI
set_option linter.unusedVariables false
set_option linter.unusedSimpArgs false
set_option linter.unnecessarySimpa false
namespace Go.Abs
theorem goLawTwice1 {P Q : Prop} (k : Q) (h : Hid Q → P := by (refine fun k__ => ?_); (repeat (first | ((first | refine RUN.sreg hsp hkp rfl (fun κ__ h__ => ?_) | refine RUN.reg hsp hkp rfl (fun κ__ h__ => ?_)); dsimp only [e8, e9, eR10, eR11, e10, e11, e13, e12, e17, eR24, rwD24, e14, e15, e21, e18, e19, evV, vtD, rwD, recD, intlD, allB, not, evL, consG, consO, valG, valO, nilG, nilO, noMore, vtG, vtO, id, rhoC, hsetL, happ, happO, nodupC, inC, appN, Vt.o1, Vt.o2, vR, toCe_vf, By.eta, Ce.eta, Vt.eta, Rec.eta, Num.eta, Rec.C, sfn, txA, go_sem, Nat.succ, Int.reduceToNat, Nat.reduceAdd, Nat.reduceMul, Nat.reduceSub, Int.reduceLT, Int.reduceLE, Int.reduceNeg, UInt64.reduceToNat, UInt32.reduceToNat, UInt8.reduceToNat]; subst h__) | refine RUN.block rfl ?_ | refine RUN.skip rfl ?_ | refine RUN.ret rfl ?_ | (refine RUN.exit rfl ?_; dsimp only [xfind, xfB, Nat.beq]) | (refine RUN.seq rfl (fun κ__ h__ => ?_); subst h__) | (refine RUN.cond rfl (p := true) rfl (fun _ => ?_) (fun h__ => by cases h__)) | (refine RUN.cond rfl (p := false) rfl (fun h__ => by cases h__) (fun _ => ?_)) | refine ⟨by first | trivial | omega | (and_intros <;> first | trivial | rfl | omega) | rfl, ?_⟩)); exact k__.out) : P := h ⟨k⟩
open Go.Proofs
set_option maxRecDepth 100000
-- sentinel/sentinellaw6.VaultTwice
def N5 : Nat := 168
def keep5 : List Nat := [0, 1, 2, 3, 4, 5, 12, 13, 14, 15, 16, 17, 18, 19, 20, 21, 23, 24, 25, 26, 28, 41, 45, 53, 63, 73, 87, 98, 117, 141, 145, 167]
def res5 : List RV := [(.t 12)]
def c5 : CC :=
 (qR [qo 12 (.mov (.c (.bool false)))]
 (.seq (qR [qc 27 8 [], qo 28 (.un .not (.t 27))]
 (.cond (.t 28)
 (qR [qo 12 (.mov (.c (.bool false)))]
 .ret)
 .skip))
 (.seq (qR [qm 29 1, qg 30 29, qb 31 .gtr (.t 30) (.c (.int 60)), qm 32 31, ⟨(some 33), (.mov (.t 4)), (some (32, false)), 2⟩, ⟨(some 34), (.len false (.t 33)), (some (32, false)), 2⟩, ⟨(some 35), (.bin .gtr (.t 34) (.c (.int 10))), (some (32, false)), 2⟩, qo 36 (.pick (.t 32) (.c (.bool true)) (.t 35)), qm 37 36, ⟨(some 38), (.mov (.t 5)), (some (37, false)), 2⟩, ⟨(some 39), (.len false (.t 38)), (some (37, false)), 2⟩, ⟨(some 40), (.bin .gtr (.t 39) (.c (.int 5))), (some (37, false)), 2⟩, qo 41 (.pick (.t 37) (.c (.bool true)) (.t 40))]
 (.cond (.t 41)
 (qR [qo 12 (.mov (.c (.bool true)))]
 .ret)
 .skip))
 (qR [qc 42 9 [], qc 43 10 [], qm 13 42, qm 14 43]
 (.seq (qR [qm 44 13, qo 45 (.eq false .ptr (.t 44) (.c .nilp))]
 (.cond (.t 45)
 (qR [qo 12 (.mov (.c (.bool false)))]
 .ret)
 .skip))
 (.seq (qR [qj 15 0]
 (.block 0 (.loop (.seq (qR [qm 46 15, qm 47 0, qg 48 47, qb 49 .lss (.t 46) (.t 48), qm 50 49, ⟨(some 51), (.mov (.t 15)), (some (50, true)), 2⟩, ⟨(some 52), (.bin .lss (.t 51) (.c (.int 25))), (some (50, true)), 2⟩, qo 53 (.pick (.t 50) (.t 52) (.c (.bool false)))]
 (.cond (.t 53)
 .skip
 (.exit 0)))
 (.seq (.block 1 (qR [qm 56 0, qm 57 15, qi 58 1 56 57, ql 59 58, qc 60 12 [(.t 59), (.c (.int 1073741824))], qm 16 60]
 (.seq (qR [qm 61 16, qb 62 .rem (.t 61) (.c (.int 12)), qb 63 .geq (.t 62) (.c (.int 8))]
 (.cond (.t 63)
 (.reg [qm 64 16, qm 65 16, qb 66 .rem (.t 65) (.c (.int 12)), qb 67 .sub (.t 64) (.t 66), qm 16 67] [])
 .skip))
 (qR [qm 68 13, qm 69 14, qm 70 16, qm 71 1, qo 72 (.call (.c (.fn 11 [])) [(.t 68), (.t 69), (.t 70), (.t 71), (.c (.sl true 0 0 (.agg []) true))]), qo 73 (.un .not (.t 72))]
 (.cond (.t 73)
 (qR [qo 12 (.mov (.c (.bool false)))]
 .ret)
 .skip)))))
 (.reg [qm 54 15, qb 55 .add (.t 54) (.c (.int 1)), qm 15 55] []))))))
 (qR [qm 74 13, qm 75 3, qc 76 12 [(.t 75), (.c (.int 3))], qc 77 14 [(.t 74), (.t 76)]]
 (qR [qm 78 13, qm 79 2, qc 80 12 [(.t 79), (.c (.int 1073741824))], qm 81 1, qc 82 16 [(.t 80), (.t 81)], qc 83 17 [(.t 78), (.t 82)]]
 (.seq (qR [qm 84 13, qc 85 23 [(.t 84)], qm 86 4, qc 87 24 [(.t 85), (.t 86)]]
 (.cond (.t 87)
 (qR [qo 12 (.mov (.c (.bool true)))]
 .ret)
 .skip))
 (qR [qm 88 13, qm 89 4, qc 90 25 [(.t 88), (.t 89)]]
 (qR [qm 91 13, qc 92 21 [(.t 91)], qm 17 92]
 (qR [qm 93 13, qc 94 20 [(.t 93)], qm 18 94]
 (qR [qo 19 (.mov (.c (.sl true 0 0 (.agg []) true)))]
 (.seq (qR [qj 20 0]
 (.block 2 (.loop (.seq (qR [qm 95 20, qm 96 18, qg 97 96, qb 98 .lss (.t 95) (.t 97)]
 (.cond (.t 98)
 .skip
 (.exit 2)))
 (.seq (.block 3 (qR [qm 102 13, qm 103 18, qm 104 20, qi 105 1 103 104, ql 106 105, qc 107 19 [(.t 102), (.t 106)], qm 101 107, qe 108 101 0, qe 109 101 1, qo 21 (.alloc qv), ⟨none, (.store (some 23) (.t 21) (.t 108)), none, 2⟩, qm 22 109]
 (.reg [qm 110 19, qo 111 (.load (some 23) (.t 21)), qo 112 (.bsl false .other 23 1 [(.int 0), (.str []), (.sl true 0 0 (.agg []) true), (.u32 0), (.u32 0), (.u32 0), (.u32 0), (.u32 0), (.u32 0), (.u32 0), (.u32 0), (.u32 0), (.u32 0), (.u32 0), (.u32 0), (.u32 0), (.u32 0), (.u32 0), (.u32 0), (.sl true 0 0 (.agg []) true), (.int 0), (.int 0), (.int 0)] [(0, (23, (.t 111)))]), qo 113 (.app true 23 160 (.t 110) (.t 112)), qm 19 113] [])))
 (.reg [qm 99 20, qb 100 .add (.t 99) (.c (.int 1)), qm 20 100] []))))))
 (.seq (qR [qj 23 0]
 (.block 4 (.loop (.seq (qR [qm 114 23, qm 115 5, qg 116 115, qb 117 .lss (.t 114) (.t 116)]
 (.cond (.t 117)
 .skip
 (.exit 4)))
 (.seq (.block 5 (qR [qm 120 13, qm 121 5, qm 122 23, qi 123 1 121 122, ql 124 123, qo 125 (.bsl false .int 1 1 [(.int 0)] [(0, (1, (.t 124)))]), qc 126 25 [(.t 120), (.t 125)]]
 (.seq (qR [qm 127 13, qc 128 21 [(.t 127)], qm 129 17, qb 130 .add (.t 129) (.c (.int 1)), qm 131 23, qb 132 .add (.t 130) (.t 131), qo 133 (.eq true .sc (.t 128) (.t 132)), qm 134 133, ⟨(some 135), (.mov (.t 13)), (some (134, false)), 2⟩, ⟨(some 136), (.call (.c (.fn 20 [])) [(.t 135)]), (some (134, false)), 2⟩, ⟨(some 137), (.len false (.t 136)), (some (134, false)), 2⟩, ⟨(some 138), (.mov (.t 18)), (some (134, false)), 2⟩, ⟨(some 139), (.len false (.t 138)), (some (134, false)), 2⟩, ⟨(some 140), (.eq true .sc (.t 137) (.t 139)), (some (134, false)), 2⟩, qo 141 (.pick (.t 134) (.c (.bool true)) (.t 140))]
 (.cond (.t 141)
 (qR [qo 12 (.mov (.c (.bool false)))]
 .ret)
 .skip))
 (qR [qj 24 0]
 (.block 6 (.loop (.seq (qR [qm 142 24, qm 143 18, qg 144 143, qb 145 .lss (.t 142) (.t 144)]
 (.cond (.t 145)
 .skip
 (.exit 6)))
 (.seq (.block 7 (qR [qm 149 13, qm 150 18, qm 151 24, qi 152 1 150 151, ql 153 152, qc 154 19 [(.t 149), (.t 153)], qm 148 154, qe 155 148 0, qe 156 148 1, qo 25 (.alloc qv), ⟨none, (.store (some 23) (.t 25) (.t 155)), none, 2⟩, qm 26 156]
 (qR [qz 157 26, ⟨(some 158), (.un .not (.t 157)), none, 0⟩, qz 159 158, ⟨(some 160), (.load (some 23) (.t 25)), (some (159, false)), 1⟩, ⟨(some 161), (.mov (.t 19)), (some (159, false)), 0⟩, ⟨(some 162), (.mov (.t 24)), (some (159, false)), 0⟩, ⟨(some 163), (.iadS 23 (.t 161) (.t 162)), (some (159, false)), 1⟩, ⟨(some 164), (.load (some 23) (.t 163)), (some (159, false)), 1⟩, ⟨(some 165), (.call (.c (.fn 26 [])) [(.t 160), (.t 164)]), (some (159, false)), 0⟩, ⟨(some 166), (.un .not (.t 165)), (some (159, false)), 0⟩, ⟨(some 167), (.pick (.t 159) (.c (.bool true)) (.t 166)), none, 0⟩]
 (.cond (.t 167)
 (qR [qo 12 (.mov (.c (.bool false)))]
 .ret)
 .skip))))
 (.reg [qm 146 24, qb 147 .add (.t 146) (.c (.int 1)), qm 24 147] [])))))))))
 (.reg [qm 118 23, qb 119 .add (.t 118) (.c (.int 1)), qm 23 119] []))))))
 (qR [qo 12 (.mov (.c (.bool true)))]
 .ret))))))))))))))))
theorem o5 : FnOK Tryz.prog 5 N5 res5 c5 := mkF [] pures Tryz.func5
end Go.Abs

namespace Go.Abs
open Go.Proofs
set_option maxRecDepth 100000

theorem fork_boolP {p v : Bool} {F : Bool → Prop} (h : ∀ w : Bool, (w = true → p = true ∧ v = true) → F w) : fork p (F v) (F false) :=
 fork_intro (fun hp => h v fun e => ⟨hp, e⟩) (fun _ => h false fun e => by cases e)
def LR5a (ns : IntL) (b : By) (n fail : Int) (cuts again : IntL) : LI where
 X := Nat × Vt × Vt
 x0 := (0, vtN, vtR)
 pre x := x.1 ≤ 25 ∧ Ply x.2.1 x.2.2 x.1
 inv x := ([(0, ns.A), (1, b.A), (2, .int n), (3, .int fail), (4, cuts.A), (5, again.A), (13, .ptr 1 0 0), (14, .ptr 3 0 0), (15, .int x.1)], [x.2.1.o2, x.2.1.o1 0, x.2.2.o2, x.2.2.o1 2])
 mu x := 25 - x.1
 ren := true
def vOf : List AO → Vt
 | ⟨_, .rw _ _ f, _⟩ :: ⟨_, .agg [_, .int l, .bool d], _⟩ :: _ => ⟨fun k => toCe (f k), l, d⟩
 | _ => vtN
def LR5b (e : AV) (again : AV) (s0 : Vt) : LI where
 X := Nat
 x0 := 0
 pre k := k ≤ s0.names.1
 inv k := ([(5, again), (13, .ptr 1 0 0), (17, e), (18, txA s0.names), (19, .ms (Nat.beq k 0) 2 0 0 k 23), (20, .int k)], [s0.o2, s0.o1 0, ⟨0, .rw k 23 (fun k => recF (orZR (s0.get (s0.names.2 k)))), false⟩])
 mu k := s0.names.1 - k
 ren := true
def LR5c (e : Int) (again : IntL) (s0 : Vt) : LI where
 X := Nat × Vt
 x0 := (0, s0)
 pre x := x.1 ≤ again.l.length ∧ Tw s0 x.2 (e + x.1)
 inv x := ([(5, again.A), (13, .ptr 1 0 0), (17, .int e), (18, txA s0.names), (19, .ms (Nat.beq s0.names.1 0) 2 0 0 s0.names.1 23), (23, .int x.1)], [x.2.o2, x.2.o1 0, ⟨0, .rw s0.names.1 23 (fun k => recF (orZR (s0.get (s0.names.2 k)))), false⟩])
 mu x := again.l.length - x.1
 ren := true
def LR5d (sl : SL) (h : List AO) : LI where
 X := Nat
 x0 := 0
 pre k := k ≤ 8
 inv k := ([(5, look sl 5), (13, look sl 13), (17, look sl 17), (18, look sl 18), (19, look sl 19), (23, look sl 23), (24, .int k)], h)
 mu k := 8 - k
 ren := true
def iV : AV → Int
 | .int n => n
 | _ => 0
def LR5 (ns : IntL) (b : By) (n fail : Int) (cuts again : IntL) (id : Nat) (sl : SL) (h : List AO) : LI := match id with
 | 0 => LR5a ns b n fail cuts again
 | 2 => LR5b (look sl 17) again.A (vOf h)
 | 4 => LR5c (iV (look sl 17)) again (vOf h)
 | _ => LR5d sl h
theorem era_at {s : Vt} {e e' : Int} (h : Era s e) (he : e = e') : Era s e' := by subst he; exact h
theorem tw_at {s0 s : Vt} {e e' : Int} (h : Tw s0 s e) (he : e = e') : Tw s0 s e' := by subst he; exact h
theorem tellC_snk {k : Nat} {f : Nat → List FV} {xs : List FV} (hx : xs = f k) : TellC (.rw (k + 1) 23 (snocF f k xs)) (.rw (k + 1) 23 f) := by
 refine tellC_rw rfl fun i hi => ?_
 rcases Nat.lt_or_ge i k with h | h
 ·rw [snocF_lt h]
 ·obtain rfl : i = k := by omega
  rw [snocF_eq, hx]
theorem tellC_sn0 {k : Nat} {f : Nat → List FV} {xs : List FV} (hk : k = 0) (hx : xs = f k) : TellC (.rw (0 + 1) 23 (snocF f 0 xs)) (.rw (k + 1) 23 f) := by
 subst hk
 exact tellC_snk hx
attribute [local irreducible] readR Vt.rfind Vt.rfree Vt.rwrite Vt.rwrOK Vt.rera Vt.put Vt.gone Vt.rput Vt.rgone Vt.get Vt.rget Vt.again Vt.ragain stepV stepX stepR vtN vtR Vt.names Vt.boot Vt.rboot clashTo
set_option maxHeartbeats 20000000 in
theorem fR5 (ns : IntL) (b : By) (n fail : Int) (cuts again : IntL) : ACalls Tryz.prog 5 [ns.A, b.A, .int n, .int fail, cuts.A, again.A] [] (fun a h => a = .bool true ∧ h = []) := by
 refine o5.runS [(8, e8), (9, e9), (10, eR10), (11, eR11), (12, e10), (14, e11), (16, e13), (17, e12), (23, e17), (24, eR24), (25, e14), (21, e15), (20, e21), (19, e18), (26, e19)] keep5 0 (LR5 ns b n fail cuts again) (own := false) (kn := 0)
  (.cons ok8 o8.enter (.cons ok9 o9.enter (.cons okR10 o10.enter (.cons okR11 o11.enter (.cons ok10 o12.enter (.cons ok11 o14.enter (.cons ok13 o16.enter (.cons ok12 o17.enter (.cons ok17 o23.enter (.cons okR24 o24.enter (.cons ok14 o25.enter (.cons ok15 o21.enter (.cons ok21 o20.enter (.cons ok18 o19.enter (.cons ok19 o26.enter .nil))))))))))))))) (Nat.le_of_ble_eq_true rfl) rfl (Nat.le_refl _) (fun Γ hsp hkp hk0 hinv κ hκ => ?_)
 dsimp only [keep5] at hkp
 dsimp only [IntL.A, By.A]
 refine goLawTwice1 ?_
 refine fork_intro (fun hc => ?_) (fun hc => fork_intro (fun hc2 => ?_) (fun hc2 => ?_))
 ·refine goLawTwice1 ?_
  rw [hκ]; exact leaf_true rfl
 ·refine goLawTwice1 ?_
  rw [hκ]; exact leaf_true rfl
 have hb : b.l.length ≤ 60 := by have := of_decide_eq_false hc; omega
 refine RUN.cond rfl rfl (fun hc => ?_) (fun hc => ?_)
 ·refine goLawTwice1 ?_
  rw [hκ]; exact leaf_true rfl
 have ht : again.l.length ≤ 5 := by have := of_decide_eq_false hc; omega
 refine goLawTwice1 ?_
 refine RUN.loop hk0 hinv rfl rfl (L := LR5a ns b n fail cuts again) rfl rfl rfl ?_ ?_ (fun x hx κ1 h1 => ?_)
 ·dsimp only [LR5a, fits, Vt.o1, Vt.o2, vR, IntL.A, By.A]
  refine ⟨[some 0, some 1, some 2, some 3], rfl, ?_, by first | rfl | trivial, ?_⟩
  ·exact rn
  ·exact rn
 ·exact ⟨Nat.zero_le _, Ply.new⟩
 obtain ⟨i, s, s'⟩ := x
 obtain ⟨hi, hP⟩ := hx
 dsimp only at hi hP
 dsimp only [LR5a, Vt.o1, Vt.o2, vR, IntL.A, By.A]
 refine goLawTwice1 ?_
 generalize hv : decide ((i : Int) < 25) = v
 apply fork_boolP (v := v)
 intro w hw
 refine RUN.cond rfl rfl (fun hc => ?_) (fun hc => ?_)
 ·obtain ⟨hl, h40⟩ := hw hc
  subst hv
  have hl : i < ns.l.length := by have := of_decide_eq_true hl; omega
  have h40 : i < 25 := by have := of_decide_eq_true h40; omega
  refine goLawTwice1 ?_
  refine ⟨Nat.zero_lt_one, ⟨by decide, by decide⟩, ?_⟩
  have hx := within1_in (a := ns.l.getD (i : Int).toNat 0) (b := 1073741824) (by omega)
  have hx : 0 ≤ within1 ([ns.l.getD (i : Int).toNat 0].getD 0 0) 1073741824 ∧ within1 ([ns.l.getD (i : Int).toNat 0].getD 0 0) 1073741824 < 1073741824 := hx
  generalize within1 ([ns.l.getD (i : Int).toNat 0].getD 0 0) 1073741824 = m at hx ⊢
  refine goLawTwice1 ?_
  have hmm : m.tmod 12 = m % 12 := Int.tmod_eq_emod_of_nonneg hx.1
  obtain ⟨M, hM⟩ : ∃ M, (if 8 ≤ m.tmod 12 then w64 (m - m.tmod 12) else m) = M := ⟨_, rfl⟩
  have hMx : 0 ≤ M ∧ M < 1073741824 := by
   rw [← hM]
   split
   ·rw [w64_in (by omega)]; omega
   ·exact hx
  obtain ⟨p1, p2⟩ := hP.step (by omega) (m := M.tmod 12) (k := M.tdiv 12) ⟨Int.tmod_nonneg _ hMx.1, Int.tmod_lt_of_pos _ (by decide)⟩ (Int.tdiv_nonneg hMx.1 (by decide)) b []
  have hIn := hP.stepIn hMx hb (t := []) (Nat.zero_le _)
  have wk : w64 ((i : Int) + 1) = ((i + 1 : Nat) : Int) := by rw [w64_in (by omega)]; omega
  generalize hK : RUN Γ _ (RUN Γ _ κ1 _ κ) _ κ = K
  refine RUN.cond rfl rfl (fun h3 => ?_) (fun h3 => ?_)
  all_goals
   refine goLawTwice1 ?_
   first
    | rw [show w64 (m - m.tmod 12) = M by rw [← hM, if_pos (of_decide_eq_true h3)]]
    | rw [show AV.int m = AV.int M by rw [← hM, if_neg (of_decide_eq_false h3)]]
   subst hK
   refine goLawTwice1 ?_
   rw [p1]
   refine goLawTwice1 ?_
   rw [wk]
   generalize stepV s (M.tmod 12) (M.tdiv 12) b [] = s1 at p2 ⊢
   generalize stepX s' (M.tmod 12) (M.tdiv 12) b [] = s1' at p2 ⊢
   subst h1
   dsimp only [loopK, fits, LR5a, Vt.o1, Vt.o2, vR, IntL.A, By.A]
   refine ⟨(i + 1, s1, s1'), ⟨by dsimp only; omega, p2⟩, by dsimp only; omega, [some 0, some 1, some 2, some 3], rfl, ?_, by first | rfl | trivial, ?_⟩
   ·exact rn
   ·exact rn
 ·obtain ⟨e, e1, e2, e3⟩ := hP.era
  have hf := within1_in (a := fail) (b := 3) (by omega)
  have ho := recV_good (within1 n 1073741824) b
  have ho1 : (recV (within1 n 1073741824) b).outW.l.length ≤ 200 := out_len ho.ok
  have hl0 : (s.fail (within1 fail 3)).left ≤ 9223372036854775807 := by show (if within1 fail 3 < -1 then -1 else within1 fail 3) ≤ _; split <;> omega
  have hf1 := put_fine (r := recV (within1 n 1073741824) b) (fail_fine (n := within1 fail 3) hP.fine) (by omega)
  have he1 := (e1.fail (within1 fail 3)).put (recV (within1 n 1073741824) b)
  refine goLawTwice1 ?_
  generalize ((s.fail (within1 fail 3)).put (recV (within1 n 1073741824) b)).2 = s1 at hf1 he1 ⊢
  refine goLawTwice1 ?_
  refine ⟨⟨rfl, hf1.small⟩, ⟨rfl, hf1⟩, ?_⟩
  refine RUN.cond rfl rfl (fun hcl => ?_) (fun _ => ?_)
  ·refine goLawTwice1 ?_
   rw [hκ]; exact leaf_true rfl
  have hlow := hf1.low
  have hf2 := again_fine (t := cuts.l) hf1
  have he2 := he1.again ⟨e2, by omega⟩ cuts.l
  have hu2 := again_untorn s1 cuts.l
  refine goLawTwice1 ?_
  generalize s1.again cuts.l = s0 at hf2 he2 hu2 ⊢
  refine goLawTwice1 ?_
  have hnm := names_le s0
  have hbt := he2.boot ⟨by omega, by omega⟩
  refine RUN.loop hk0 hinv rfl rfl (L := LR5b (.int s0.boot) again.A s0) rfl rfl rfl ?_ ?_ (fun (k : Nat) (hk : k ≤ s0.names.1) κ2 h2 => ?_)
  ·dsimp only [LR5b, fits, Vt.o1, Vt.o2, vR, IntL.A, txA]
   refine ⟨[some 0, some 1, none], rfl, ?_, by first | rfl | trivial, ?_⟩
   ·exact rn
   ·dsimp only [sameH, sameO, nget, hget]
    and_intros <;> first | trivial | rfl | exact .inr ⟨rfl, rfl⟩ | exact .inl rfl | exact .refl rfl | exact SameC.agg (by dsimp only [SameL]; and_intros <;> first | trivial | exact .ms rfl rfl rfl rfl rfl | exact .refl rfl)
  ·exact Nat.zero_le _
  dsimp only [LR5b, Vt.o1, Vt.o2, vR, IntL.A, txA]
  refine goLawTwice1 ?_
  refine RUN.cond rfl rfl (fun h3 => ?_) (fun h3 => ?_)
  ·have h3 : k < s0.names.1 := by have := of_decide_eq_true h3; omega
   have wk : w64 ((k : Int) + 1) = ((k + 1 : Nat) : Int) := by rw [w64_in (by omega)]; omega
   refine goLawTwice1 ?_
   simp only [Int.toNat_natCast]
   cases hb0 : Nat.beq k 0
   ·dsimp only
    refine ⟨⟨rfl, by omega⟩, ?_⟩
    refine goLawTwice1 ?_
    rw [wk]
    subst h2
    dsimp only [loopK, fits, LR5b, Vt.o1, Vt.o2, vR, IntL.A, txA]
    refine ⟨k + 1, by omega, by omega, [some 0, some 1, some 2], rfl, ?_, by first | rfl | trivial, ?_⟩
    ·exact rn
    ·dsimp only [sameH, sameO, nget, hget]
     and_intros <;> first | trivial | rfl | exact .inr ⟨rfl, rfl⟩ | exact .inl rfl | exact .inl ⟨rfl, rfl⟩ | exact .refl rfl | exact SameC.agg (by dsimp only [SameL]; and_intros <;> first | trivial | exact .ms rfl rfl rfl rfl rfl | exact .refl rfl) | exact .tell (tellC_snk rfl) rfl
   ·have hk0 := Nat.eq_of_beq_eq_true hb0
    dsimp only
    refine ⟨⟨by omega, by omega⟩, ?_⟩
    refine goLawTwice1 ?_
    rw [wk]
    subst h2
    dsimp only [loopK, fits, LR5b, Vt.o1, Vt.o2, vR, IntL.A, txA]
    refine ⟨k + 1, by omega, by omega, [some 0, some 1, some 2], rfl, ?_, by first | rfl | trivial, ?_⟩
    ·exact rn
    ·dsimp only [sameH, sameO, nget, hget]
     and_intros <;> first | trivial | rfl | exact .inr ⟨rfl, rfl⟩ | exact .inl rfl | exact .inl ⟨rfl, rfl⟩ | exact .refl rfl | exact SameC.agg (by dsimp only [SameL]; and_intros <;> first | trivial | exact .ms rfl rfl rfl rfl rfl | exact .refl rfl) | exact .tell (tellC_sn0 hk0 rfl) rfl
  ·have h3 : k = s0.names.1 := by have := of_decide_eq_false h3; omega
   subst h3
   refine goLawTwice1 ?_
   refine RUN.loop hk0 hinv rfl rfl (L := LR5c s0.boot again s0) rfl rfl rfl ?_ ?_ (fun x hx κ3 h4 => ?_)
   ·dsimp only [LR5c, fits, Vt.o1, Vt.o2, vR, IntL.A, txA]
    refine ⟨[some 0, some 1, some 2], rfl, ?_, by first | rfl | trivial, ?_⟩
    ·exact rn
    ·exact rn
   ·exact ⟨Nat.zero_le _, fun _ _ => rfl, hu2, era_at he2 (by show e + 1 = s0.boot + ((0 : Nat) : Int); omega), hf2⟩
   obtain ⟨j, s2⟩ := x
   obtain ⟨hj, hT⟩ := hx
   dsimp only at hj hT
   dsimp only [LR5c, Vt.o1, Vt.o2, vR, IntL.A, txA]
   refine goLawTwice1 ?_
   refine RUN.cond rfl rfl (fun h5 => ?_) (fun h5 => ?_)
   ·have h5 : j < again.l.length := by have := of_decide_eq_true h5; omega
    have wj : w64 ((j : Int) + 1) = ((j + 1 : Nat) : Int) := by rw [w64_in (by omega)]; omega
    have hl2 := hT.fine.low
    refine goLawTwice1 ?_
    refine ⟨Nat.zero_lt_one, ⟨rfl, hl2⟩, ?_⟩
    have hT2 := hT.again ⟨by omega, by omega⟩ [[again.l.getD (j : Int).toNat 0].getD 0 0]
    obtain ⟨s3, hs3⟩ : ∃ s3, s2.again [[again.l.getD (j : Int).toNat 0].getD 0 0] = s3 := ⟨_, rfl⟩
    rw [hs3] at hT2 ⊢
    have hb3 := hT2.era.boot ⟨by omega, by omega⟩
    have hn3 := hT2.names
    have wb : w64 (w64 (s0.boot + 1) + (j : Int)) = s0.boot + (j : Int) + 1 := by rw [w64_in (n := s0.boot + 1) (by omega), w64_in (by omega)]; omega
    refine goLawTwice1 ?_
    rw [wb, hb3, hn3]
    refine fork_intro (fun h => absurd h (by rw [beq_self_eq_true]; exact Bool.false_ne_true)) (fun _ => ?_)
    refine ⟨⟨rfl, trivial⟩, ?_⟩
    refine RUN.cond rfl rfl (fun h => absurd h (by rw [beq_self_eq_true]; exact Bool.false_ne_true)) (fun _ => ?_)
    refine goLawTwice1 ?_
    refine RUN.loop hk0 hinv rfl rfl (L := LR5d _ _) rfl rfl rfl ?_ ?_ (fun (q : Nat) (hq : q ≤ 8) κ4 h6 => ?_)
    ·dsimp only [LR5d, fits, look, lookB, Nat.beq]
     refine ⟨[some 0, some 1, some 2], rfl, ?_, by first | rfl | trivial, ?_⟩
     ·exact rn
     ·exact rn
    ·exact Nat.zero_le _
    dsimp only [LR5d, look, lookB, Nat.beq]
    refine goLawTwice1 ?_
    refine RUN.cond rfl rfl (fun h7 => ?_) (fun h7 => ?_)
    ·have h7 : q < s0.names.1 := by have := of_decide_eq_true h7; omega
     have wq : w64 ((q : Int) + 1) = ((q + 1 : Nat) : Int) := by rw [w64_in (by omega)]; omega
     have hg1 := hT2.get (s0.names.2 q)
     have hg2 := name_get h7
     (repeat (first | ((first | refine RUN.sreg hsp hkp rfl (fun κ__ h__ => ?_) | refine RUN.reg hsp hkp rfl (fun κ__ h__ => ?_)); dsimp only [recF, e8, e9, eR10, eR11, e10, e11, e13, e12, e17, eR24, rwD24, e14, e15, e21, e18, e19, evV, vtD, rwD, recD, intlD, allB, not, evL, consG, consO, valG, valO, nilG, nilO, noMore, vtG, vtO, id, rhoC, hsetL, happ, happO, nodupC, inC, appN, Vt.o1, Vt.o2, vR, toCe_vf, By.eta, Ce.eta, Vt.eta, Rec.eta, Num.eta, Rec.C, sfn, txA, go_sem, Nat.succ, Int.reduceToNat, Nat.reduceAdd, Nat.reduceMul, Nat.reduceSub, Int.reduceLT, Int.reduceLE, Int.reduceNeg, UInt64.reduceToNat, UInt32.reduceToNat, UInt8.reduceToNat]; subst h__) | refine RUN.block rfl ?_ | refine RUN.skip rfl ?_ | refine RUN.ret rfl ?_ | (refine RUN.exit rfl ?_; dsimp only [xfind, xfB, Nat.beq]) | (refine RUN.seq rfl (fun κ__ h__ => ?_); subst h__) | (refine RUN.cond rfl (p := true) rfl (fun _ => ?_) (fun h__ => by cases h__)) | (refine RUN.cond rfl (p := false) rfl (fun h__ => by cases h__) (fun _ => ?_)) | refine ⟨by first | trivial | omega | (and_intros <;> first | trivial | rfl | omega) | rfl, ?_⟩))
     simp only [Int.toNat_natCast]
     rw [hg1, hg2]
     refine fork_intro (fun h => absurd h Bool.false_ne_true) (fun _ => ?_)
     have hs : (orZR (s0.get (s0.names.2 q))).same (orZR (s0.get (s0.names.2 q))) = true := (rec_same_norm _ _).2 rfl
     refine ⟨⟨by omega, by omega⟩, h7, ?_⟩
     refine RUN.cond rfl rfl (fun h => absurd h (by rw [show Rec.same _ _ = true from hs]; exact Bool.false_ne_true)) (fun _ => ?_)
     refine goLawTwice1 ?_
     rw [wq]
     subst h6
     dsimp only [loopK, fits, LR5d, look, lookB, Nat.beq]
     refine ⟨q + 1, by omega, by omega, [some 0, some 1, some 2], rfl, ?_, by first | rfl | trivial, ?_⟩
     ·exact rn
     ·exact rn
    ·refine goLawTwice1 ?_
     rw [wj]
     subst h4
     dsimp only [loopK, fits, LR5c, Vt.o1, Vt.o2, vR, IntL.A, txA]
     refine ⟨(j + 1, s3), ⟨by dsimp only; omega, tw_at hT2 (by dsimp only; omega)⟩, by dsimp only; omega, [some 0, some 1, some 2], rfl, ?_, by first | rfl | trivial, ?_⟩
     ·exact rn
     ·exact rn
   ·refine goLawTwice1 ?_
    rw [hκ]; exact leaf_true rfl
end Go.Abs
