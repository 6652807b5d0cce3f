/-
  Own work. Conditions: none. The code of a law in the short form. (Own work; printed by our own program.) The walk of the law VaultEras.
-/
import Derived.Test.YtpemjeljhpkjhaaVaC
set_option linter.unusedVariables false
set_option linter.unusedSimpArgs false
set_option linter.unnecessarySimpa false
namespace Go.Abs
open Go.Proofs
set_option maxRecDepth 100000
-- sentinel/sentinellaw6.VaultEras
def N3 : Nat := 64
def keep3 : List Nat := [0, 1, 2, 6, 7, 8, 9, 10, 12, 15, 18, 26, 46, 63]
def res3 : List RV := [(.t 6)]
def c3 : CC :=
 (.seq (.reg [⟨(some 6), (.mov (.c (.bool false))), none, 2⟩] [])
 (.seq (.seq (.reg [⟨(some 11), (.call (.c (.fn 8 [])) []), none, 2⟩, ⟨(some 12), (.un .not (.t 11)), none, 2⟩] [])
 (.cond (.t 12)
 (.seq (.reg [⟨(some 6), (.mov (.c (.bool false))), none, 2⟩] [])
 .ret)
 .skip))
 (.seq (.seq (.reg [⟨(some 13), (.mov (.t 2)), none, 2⟩, ⟨(some 14), (.len false (.t 13)), none, 2⟩, ⟨(some 15), (.bin .gtr (.t 14) (.c (.int 60))), none, 2⟩] [])
 (.cond (.t 15)
 (.seq (.reg [⟨(some 6), (.mov (.c (.bool true))), none, 2⟩] [])
 .ret)
 .skip))
 (.seq (.reg [⟨(some 16), (.call (.c (.fn 9 [])) []), none, 2⟩, ⟨(some 7), (.mov (.t 16)), none, 2⟩] [])
 (.seq (.seq (.reg [⟨(some 17), (.mov (.t 7)), none, 2⟩, ⟨(some 18), (.eq false .ptr (.t 17) (.c .nilp)), none, 2⟩] [])
 (.cond (.t 18)
 (.seq (.reg [⟨(some 6), (.mov (.c (.bool false))), none, 2⟩] [])
 .ret)
 .skip))
 (.seq (.seq (.reg [⟨(some 8), (.mov (.c (.int 0))), none, 2⟩] [])
 (.block 0 (.loop (.seq (.seq (.reg [⟨(some 19), (.mov (.t 8)), none, 2⟩, ⟨(some 20), (.mov (.t 0)), none, 2⟩, ⟨(some 21), (.len false (.t 20)), none, 2⟩, ⟨(some 22), (.bin .lss (.t 19) (.t 21)), none, 2⟩, ⟨(some 23), (.mov (.t 22)), none, 2⟩, ⟨(some 24), (.mov (.t 8)), (some (23, true)), 2⟩, ⟨(some 25), (.bin .lss (.t 24) (.c (.int 12))), (some (23, true)), 2⟩, ⟨(some 26), (.pick (.t 23) (.t 25) (.c (.bool false))), none, 2⟩] [])
 (.cond (.t 26)
 .skip
 (.exit 0)))
 (.seq (.block 1 (.seq (.reg [⟨(some 29), (.mov (.t 0)), none, 2⟩, ⟨(some 30), (.mov (.t 8)), none, 2⟩, ⟨(some 31), (.iadS 1 (.t 29) (.t 30)), none, 2⟩, ⟨(some 32), (.load none (.t 31)), none, 2⟩, ⟨(some 33), (.call (.c (.fn 10 [])) [(.t 32), (.c (.int 1048576))]), none, 2⟩, ⟨(some 9), (.mov (.t 33)), none, 2⟩] [])
 (.seq (.reg [⟨(some 34), (.mov (.t 7)), none, 2⟩, ⟨(some 35), (.mov (.t 9)), none, 2⟩, ⟨(some 36), (.bin .rem (.t 35) (.c (.int 3))), none, 2⟩, ⟨(some 37), (.call (.c (.fn 11 [])) [(.t 34), (.t 36)]), none, 2⟩] [])
 (.seq (.reg [⟨(some 38), (.mov (.t 7)), none, 2⟩, ⟨(some 39), (.mov (.t 9)), none, 2⟩, ⟨(some 40), (.mov (.t 2)), none, 2⟩, ⟨(some 41), (.call (.c (.fn 13 [])) [(.t 39), (.t 40)]), none, 2⟩, ⟨(some 42), (.call (.c (.fn 12 [])) [(.t 38), (.t 41)]), none, 2⟩] [])
 (.seq (.reg [⟨(some 10), (.mov (.c (.int 0))), none, 2⟩] [])
 (.seq (.seq (.reg [⟨(some 43), (.mov (.t 8)), none, 2⟩, ⟨(some 44), (.mov (.t 1)), none, 2⟩, ⟨(some 45), (.len false (.t 44)), none, 2⟩, ⟨(some 46), (.bin .lss (.t 43) (.t 45)), none, 2⟩] [])
 (.cond (.t 46)
 (.reg [⟨(some 47), (.mov (.t 1)), none, 2⟩, ⟨(some 48), (.mov (.t 8)), none, 2⟩, ⟨(some 49), (.iadS 1 (.t 47) (.t 48)), none, 2⟩, ⟨(some 50), (.load none (.t 49)), none, 2⟩, ⟨(some 10), (.mov (.t 50)), none, 2⟩] [])
 .skip))
 (.seq (.reg [⟨(some 51), (.mov (.t 7)), none, 2⟩, ⟨(some 52), (.mov (.t 10)), none, 2⟩, ⟨(some 53), (.bsl false .int 1 1 [(.int 0)] [(0, (1, (.t 52)))]), none, 2⟩, ⟨(some 54), (.call (.c (.fn 14 [])) [(.t 51), (.t 53)]), none, 2⟩] [])
 (.seq (.reg [⟨(some 55), (.mov (.t 7)), none, 2⟩, ⟨(some 56), (.call (.c (.fn 15 [])) [(.t 55)]), none, 2⟩, ⟨(some 57), (.mov (.t 8)), none, 2⟩, ⟨(some 58), (.bin .add (.t 57) (.c (.int 2))), none, 2⟩, ⟨(some 59), (.eq true .sc (.t 56) (.t 58)), none, 2⟩, ⟨(some 60), (.mov (.t 59)), none, 2⟩, ⟨(some 61), (.mov (.t 7)), (some (60, false)), 2⟩, ⟨(some 62), (.call (.c (.fn 16 [])) [(.t 61)]), (some (60, false)), 2⟩, ⟨(some 63), (.pick (.t 60) (.c (.bool true)) (.t 62)), none, 2⟩] [])
 (.cond (.t 63)
 (.seq (.reg [⟨(some 6), (.mov (.c (.bool false))), none, 2⟩] [])
 .ret)
 .skip)))))))))
 (.reg [⟨(some 27), (.mov (.t 8)), none, 2⟩, ⟨(some 28), (.bin .add (.t 27) (.c (.int 1))), none, 2⟩, ⟨(some 8), (.mov (.t 28)), none, 2⟩] []))))))
 (.seq (.reg [⟨(some 6), (.mov (.c (.bool true))), none, 2⟩] [])
 .ret)))))))
theorem o3 : FnOK Try.prog 3 N3 res3 c3 := ⟨_, _, Try.f3.results.toList, [], pures, Try.func3, show _ = some (Try.f3.body.getD .skip) by kernel_rfl, (Array.toArray_toList).symm, by kernel_rfl, by kernel_rfl, by kernel_rfl, by kernel_rfl, follows, callFunc_enter Try.func3 (by kernel_rfl) (by kernel_rfl)⟩
open Go.Proofs
set_option maxRecDepth 100000

theorem Era.congr' {s : Vt} {i j : Int} (h : Era s i) (e : j = i) : Era s j := by subst e; exact h
def L3 (f c : IntL) (b : By) : LI where
  X := Nat × Vt
  x0 := (0, vtN)
  pre x := x.1 ≤ 12 ∧ Era x.2 ((x.1 : Int) + 1) ∧ x.2.dead = false ∧ x.2.left = -1 ∧ x.2.fine
  inv x := ([(0, f.A), (1, c.A), (2, b.A), (7, .ptr 1 0 0), (8, .int x.1)], [x.2.o2, x.2.o1 0])
  mu x := 12 - x.1
  ren := true
set_option maxHeartbeats 4000000 in
theorem fn3 (f c : IntL) (b : By) : ACalls Try.prog 3 [f.A, c.A, b.A] [] (fun a h => a = .bool true ∧ h = []) := by
  refine o3.runS [(8, e8), (9, e9), (10, e10), (11, e11), (12, e12), (13, e13), (14, e14), (15, e15), (16, e16)] keep3 0 (fun _ _ _ => L3 f c b) (own := false) (kn := 0)
    (.cons ok8 o8.enter (.cons ok9 o9.enter (.cons ok10 o10.enter (.cons ok11 o11.enter (.cons ok12 o12.enter (.cons ok13 o13.enter (.cons ok14 o14.enter (.cons ok15 o15.enter (.cons ok16 o16.enter .nil))))))))) (Nat.le_of_ble_eq_true rfl) rfl (Nat.le_refl _) (fun Γ hsp hkp hk0 hinv κ hκ => ?_)
  dsimp only [keep3] at hkp
  dsimp only [IntL.A]
  (repeat (first | ((first | refine RUN.sreg hsp hkp rfl (fun κ__ h__ => ?_) | refine RUN.reg hsp hkp rfl (fun κ__ h__ => ?_)); dsimp only [e8, e9, e10, e11, e12, e13, e14, e15, e16, evV, vtD, rwD, recD, intlD, allB, not, evL, consG, consO, valG, valO, nilG, nilO, noMore, vtG, vtO, id, rhoC, hsetL, happ, happO, nodupC, inC, appN, Vt.o1, Vt.o2, vR, toCe_vf, By.eta, Ce.eta, Vt.eta, Rec.eta, Num.eta, Rec.C, go_sem, Nat.succ, Int.reduceToNat, Nat.reduceAdd, Nat.reduceMul, Nat.reduceSub, Int.reduceLT, Int.reduceLE, Int.reduceNeg, UInt64.reduceToNat, UInt32.reduceToNat, UInt8.reduceToNat]; subst h__) | refine RUN.block rfl ?_ | refine RUN.skip rfl ?_ | refine RUN.ret rfl ?_ | (refine RUN.exit rfl ?_; dsimp only [xfind, xfB, Nat.beq]) | (refine RUN.seq rfl (fun κ__ h__ => ?_); subst h__) | (refine RUN.cond rfl (p := true) rfl (fun _ => ?_) (fun h__ => by cases h__)) | (refine RUN.cond rfl (p := false) rfl (fun h__ => by cases h__) (fun _ => ?_)) | refine ⟨by first | trivial | omega | (and_intros <;> first | trivial | rfl | omega) | rfl, ?_⟩))
  refine RUN.cond rfl rfl (fun hc => ?_) (fun hc => ?_)
  · (repeat (first | ((first | refine RUN.sreg hsp hkp rfl (fun κ__ h__ => ?_) | refine RUN.reg hsp hkp rfl (fun κ__ h__ => ?_)); dsimp only [e8, e9, e10, e11, e12, e13, e14, e15, e16, evV, vtD, rwD, recD, intlD, allB, not, evL, consG, consO, valG, valO, nilG, nilO, noMore, vtG, vtO, id, rhoC, hsetL, happ, happO, nodupC, inC, appN, Vt.o1, Vt.o2, vR, toCe_vf, By.eta, Ce.eta, Vt.eta, Rec.eta, Num.eta, Rec.C, go_sem, Nat.succ, Int.reduceToNat, Nat.reduceAdd, Nat.reduceMul, Nat.reduceSub, Int.reduceLT, Int.reduceLE, Int.reduceNeg, UInt64.reduceToNat, UInt32.reduceToNat, UInt8.reduceToNat]; subst h__) | refine RUN.block rfl ?_ | refine RUN.skip rfl ?_ | refine RUN.ret rfl ?_ | (refine RUN.exit rfl ?_; dsimp only [xfind, xfB, Nat.beq]) | (refine RUN.seq rfl (fun κ__ h__ => ?_); subst h__) | (refine RUN.cond rfl (p := true) rfl (fun _ => ?_) (fun h__ => by cases h__)) | (refine RUN.cond rfl (p := false) rfl (fun h__ => by cases h__) (fun _ => ?_)) | refine ⟨by first | trivial | omega | (and_intros <;> first | trivial | rfl | omega) | rfl, ?_⟩))
    rw [hκ]; exact leaf_true rfl
  have hb : b.l.length ≤ 60 := by have := of_decide_eq_false hc; omega
  (repeat (first | ((first | refine RUN.sreg hsp hkp rfl (fun κ__ h__ => ?_) | refine RUN.reg hsp hkp rfl (fun κ__ h__ => ?_)); dsimp only [e8, e9, e10, e11, e12, e13, e14, e15, e16, evV, vtD, rwD, recD, intlD, allB, not, evL, consG, consO, valG, valO, nilG, nilO, noMore, vtG, vtO, id, rhoC, hsetL, happ, happO, nodupC, inC, appN, Vt.o1, Vt.o2, vR, toCe_vf, By.eta, Ce.eta, Vt.eta, Rec.eta, Num.eta, Rec.C, go_sem, Nat.succ, Int.reduceToNat, Nat.reduceAdd, Nat.reduceMul, Nat.reduceSub, Int.reduceLT, Int.reduceLE, Int.reduceNeg, UInt64.reduceToNat, UInt32.reduceToNat, UInt8.reduceToNat]; subst h__) | refine RUN.block rfl ?_ | refine RUN.skip rfl ?_ | refine RUN.ret rfl ?_ | (refine RUN.exit rfl ?_; dsimp only [xfind, xfB, Nat.beq]) | (refine RUN.seq rfl (fun κ__ h__ => ?_); subst h__) | (refine RUN.cond rfl (p := true) rfl (fun _ => ?_) (fun h__ => by cases h__)) | (refine RUN.cond rfl (p := false) rfl (fun h__ => by cases h__) (fun _ => ?_)) | refine ⟨by first | trivial | omega | (and_intros <;> first | trivial | rfl | omega) | rfl, ?_⟩))
  refine RUN.loop hk0 hinv rfl rfl (L := L3 f c b) rfl rfl rfl ?_ ?_ (fun x hx κ1 h1 => ?_)
  · dsimp only [L3, fits, Vt.o1, Vt.o2, vR, IntL.A]
    refine ⟨[some 0, some 1], rfl, ?_, by first | rfl | trivial, ?_⟩
    · (try dsimp only [nodupN, inN, nget, sameS, sameH, sameO, SameL, look, lookB, hget, hlen, emptyC, Nat.beq, Nat.ble]) <;> and_intros <;> first | trivial | rfl | exact .inl rfl | exact .refl rfl | exact .inl ⟨rfl, rfl⟩ | exact .ms rfl rfl rfl rfl rfl | exact .ptr rfl rfl rfl rfl rfl | exact .any | exact .nil | exact .nilm | exact .bf ⟨.ptr rfl rfl rfl rfl rfl, trivial⟩ | exact .fn ⟨.ptr rfl rfl rfl rfl rfl, trivial⟩ | exact .inr ⟨rfl, rfl⟩ | exact SameC.agg ⟨.refl rfl, .tell (byD_tell _ ⟨true, []⟩ rfl) rfl, trivial⟩ | exact .tell (tellC_rw0 _ _) rfl | exact .tell (tellC_snoc rfl) rfl | exact SameC.agg (by (try dsimp only [SameL]); and_intros <;> first | trivial | exact .refl rfl | exact .ms rfl rfl rfl rfl rfl | exact .ptr rfl rfl rfl rfl rfl | exact .nil | exact .nilm | exact .any)
    · (try dsimp only [nodupN, inN, nget, sameS, sameH, sameO, SameL, look, lookB, hget, hlen, emptyC, Nat.beq, Nat.ble]) <;> and_intros <;> first | trivial | rfl | exact .inl rfl | exact .refl rfl | exact .inl ⟨rfl, rfl⟩ | exact .ms rfl rfl rfl rfl rfl | exact .ptr rfl rfl rfl rfl rfl | exact .any | exact .nil | exact .nilm | exact .bf ⟨.ptr rfl rfl rfl rfl rfl, trivial⟩ | exact .fn ⟨.ptr rfl rfl rfl rfl rfl, trivial⟩ | exact .inr ⟨rfl, rfl⟩ | exact SameC.agg ⟨.refl rfl, .tell (byD_tell _ ⟨true, []⟩ rfl) rfl, trivial⟩ | exact .tell (tellC_rw0 _ _) rfl | exact .tell (tellC_snoc rfl) rfl | exact SameC.agg (by (try dsimp only [SameL]); and_intros <;> first | trivial | exact .refl rfl | exact .ms rfl rfl rfl rfl rfl | exact .ptr rfl rfl rfl rfl rfl | exact .nil | exact .nilm | exact .any)
  · exact ⟨by show 0 ≤ 12; omega, vtN_era, vtN_alive.1, vtN_alive.2, vtN_fine⟩
  obtain ⟨i, s⟩ := x
  obtain ⟨(hi : i ≤ 12), (h2 : Era s ((i : Int) + 1)), (h3 : s.dead = false), (h4 : s.left = -1), (h5 : s.fine)⟩ := hx
  dsimp only [L3, Vt.o1, Vt.o2, vR, IntL.A]
  (repeat (first | ((first | refine RUN.sreg hsp hkp rfl (fun κ__ h__ => ?_) | refine RUN.reg hsp hkp rfl (fun κ__ h__ => ?_)); dsimp only [e8, e9, e10, e11, e12, e13, e14, e15, e16, evV, vtD, rwD, recD, intlD, allB, not, evL, consG, consO, valG, valO, nilG, nilO, noMore, vtG, vtO, id, rhoC, hsetL, happ, happO, nodupC, inC, appN, Vt.o1, Vt.o2, vR, toCe_vf, By.eta, Ce.eta, Vt.eta, Rec.eta, Num.eta, Rec.C, go_sem, Nat.succ, Int.reduceToNat, Nat.reduceAdd, Nat.reduceMul, Nat.reduceSub, Int.reduceLT, Int.reduceLE, Int.reduceNeg, UInt64.reduceToNat, UInt32.reduceToNat, UInt8.reduceToNat]; subst h__) | refine RUN.block rfl ?_ | refine RUN.skip rfl ?_ | refine RUN.ret rfl ?_ | (refine RUN.exit rfl ?_; dsimp only [xfind, xfB, Nat.beq]) | (refine RUN.seq rfl (fun κ__ h__ => ?_); subst h__) | (refine RUN.cond rfl (p := true) rfl (fun _ => ?_) (fun h__ => by cases h__)) | (refine RUN.cond rfl (p := false) rfl (fun h__ => by cases h__) (fun _ => ?_)) | refine ⟨by first | trivial | omega | (and_intros <;> first | trivial | rfl | omega) | rfl, ?_⟩))
  refine fork_intro (fun h6 => ?_) (fun h6 => ?_)
  · have h6 := of_decide_eq_true h6
    refine RUN.cond rfl rfl (fun h7 => ?_) (fun h7 => ?_)
    · have h7 := of_decide_eq_true h7
      (repeat (first | ((first | refine RUN.sreg hsp hkp rfl (fun κ__ h__ => ?_) | refine RUN.reg hsp hkp rfl (fun κ__ h__ => ?_)); dsimp only [e8, e9, e10, e11, e12, e13, e14, e15, e16, evV, vtD, rwD, recD, intlD, allB, not, evL, consG, consO, valG, valO, nilG, nilO, noMore, vtG, vtO, id, rhoC, hsetL, happ, happO, nodupC, inC, appN, Vt.o1, Vt.o2, vR, toCe_vf, By.eta, Ce.eta, Vt.eta, Rec.eta, Num.eta, Rec.C, go_sem, Nat.succ, Int.reduceToNat, Nat.reduceAdd, Nat.reduceMul, Nat.reduceSub, Int.reduceLT, Int.reduceLE, Int.reduceNeg, UInt64.reduceToNat, UInt32.reduceToNat, UInt8.reduceToNat]; subst h__) | refine RUN.block rfl ?_ | refine RUN.skip rfl ?_ | refine RUN.ret rfl ?_ | (refine RUN.exit rfl ?_; dsimp only [xfind, xfB, Nat.beq]) | (refine RUN.seq rfl (fun κ__ h__ => ?_); subst h__) | (refine RUN.cond rfl (p := true) rfl (fun _ => ?_) (fun h__ => by cases h__)) | (refine RUN.cond rfl (p := false) rfl (fun h__ => by cases h__) (fun _ => ?_)) | refine ⟨by first | trivial | omega | (and_intros <;> first | trivial | rfl | omega) | rfl, ?_⟩))
      simp only [Int.toNat_natCast, List.getD_cons_zero]
      generalize f.l.getD i 0 = fi
      refine ⟨by simp, by omega, ?_⟩
      have hn := within1_in (a := fi) (b := 1048576) (by omega)
      generalize within1 fi 1048576 = n at hn ⊢
      have hm : -3 < n.tmod 3 ∧ n.tmod 3 < 3 := ⟨Int.lt_tmod_of_pos n (by omega), Int.tmod_lt_of_pos n (by omega)⟩
      have hl : (s.fail (n.tmod 3)).left ≤ 3 := by show (if n.tmod 3 < -1 then -1 else n.tmod 3) ≤ 3; split <;> omega
      have hr := out_len (recV_good n b).ok
      have q1 := put_fine (s := s.fail (n.tmod 3)) (r := recV n b) h5 (by omega)
      have q2 := (h2.fail (n.tmod 3)).put (recV n b)
      (repeat (first | ((first | refine RUN.sreg hsp hkp rfl (fun κ__ h__ => ?_) | refine RUN.reg hsp hkp rfl (fun κ__ h__ => ?_)); dsimp only [e8, e9, e10, e11, e12, e13, e14, e15, e16, evV, vtD, rwD, recD, intlD, allB, not, evL, consG, consO, valG, valO, nilG, nilO, noMore, vtG, vtO, id, rhoC, hsetL, happ, happO, nodupC, inC, appN, Vt.o1, Vt.o2, vR, toCe_vf, By.eta, Ce.eta, Vt.eta, Rec.eta, Num.eta, Rec.C, go_sem, Nat.succ, Int.reduceToNat, Nat.reduceAdd, Nat.reduceMul, Nat.reduceSub, Int.reduceLT, Int.reduceLE, Int.reduceNeg, UInt64.reduceToNat, UInt32.reduceToNat, UInt8.reduceToNat]; subst h__) | refine RUN.block rfl ?_ | refine RUN.skip rfl ?_ | refine RUN.ret rfl ?_ | (refine RUN.exit rfl ?_; dsimp only [xfind, xfB, Nat.beq]) | (refine RUN.seq rfl (fun κ__ h__ => ?_); subst h__) | (refine RUN.cond rfl (p := true) rfl (fun _ => ?_) (fun h__ => by cases h__)) | (refine RUN.cond rfl (p := false) rfl (fun h__ => by cases h__) (fun _ => ?_)) | refine ⟨by first | trivial | omega | (and_intros <;> first | trivial | rfl | omega) | rfl, ?_⟩))
      generalize ((s.fail (n.tmod 3)).put (recV n b)).2 = s1 at q1 q2 ⊢
      refine RUN.cond rfl rfl (fun h8 => ?_) (fun h8 => ?_)
      · have h8 := of_decide_eq_true h8
        (repeat (first | ((first | refine RUN.sreg hsp hkp rfl (fun κ__ h__ => ?_) | refine RUN.reg hsp hkp rfl (fun κ__ h__ => ?_)); dsimp only [e8, e9, e10, e11, e12, e13, e14, e15, e16, evV, vtD, rwD, recD, intlD, allB, not, evL, consG, consO, valG, valO, nilG, nilO, noMore, vtG, vtO, id, rhoC, hsetL, happ, happO, nodupC, inC, appN, Vt.o1, Vt.o2, vR, toCe_vf, By.eta, Ce.eta, Vt.eta, Rec.eta, Num.eta, Rec.C, go_sem, Nat.succ, Int.reduceToNat, Nat.reduceAdd, Nat.reduceMul, Nat.reduceSub, Int.reduceLT, Int.reduceLE, Int.reduceNeg, UInt64.reduceToNat, UInt32.reduceToNat, UInt8.reduceToNat]; subst h__) | refine RUN.block rfl ?_ | refine RUN.skip rfl ?_ | refine RUN.ret rfl ?_ | (refine RUN.exit rfl ?_; dsimp only [xfind, xfB, Nat.beq]) | (refine RUN.seq rfl (fun κ__ h__ => ?_); subst h__) | (refine RUN.cond rfl (p := true) rfl (fun _ => ?_) (fun h__ => by cases h__)) | (refine RUN.cond rfl (p := false) rfl (fun h__ => by cases h__) (fun _ => ?_)) | refine ⟨by first | trivial | omega | (and_intros <;> first | trivial | rfl | omega) | rfl, ?_⟩))
        refine ⟨by simp, ?_⟩
        simp only [Int.toNat_natCast, List.getD_cons_zero]
        generalize c.l.getD i 0 = ci
        have wk : w64 ((i : Int) + 2) = (i : Int) + 1 + 1 := by rw [w64_in (by omega)]; omega
        have wk1 : w64 ((i : Int) + 1) = ((i + 1 : Nat) : Int) := by rw [w64_in (by omega)]; omega
        have r1 := q2.again (by omega) [ci]
        have r2 := r1.boot (by omega)
        obtain ⟨r3, r4⟩ := again_alive s1 [ci]
        have r5 := again_fine (t := [ci]) q1
        have q1 := q1.low
        (repeat (first | ((first | refine RUN.sreg hsp hkp rfl (fun κ__ h__ => ?_) | refine RUN.reg hsp hkp rfl (fun κ__ h__ => ?_)); dsimp only [e8, e9, e10, e11, e12, e13, e14, e15, e16, evV, vtD, rwD, recD, intlD, allB, not, evL, consG, consO, valG, valO, nilG, nilO, noMore, vtG, vtO, id, rhoC, hsetL, happ, happO, nodupC, inC, appN, Vt.o1, Vt.o2, vR, toCe_vf, By.eta, Ce.eta, Vt.eta, Rec.eta, Num.eta, Rec.C, go_sem, Nat.succ, Int.reduceToNat, Nat.reduceAdd, Nat.reduceMul, Nat.reduceSub, Int.reduceLT, Int.reduceLE, Int.reduceNeg, UInt64.reduceToNat, UInt32.reduceToNat, UInt8.reduceToNat]; subst h__) | refine RUN.block rfl ?_ | refine RUN.skip rfl ?_ | refine RUN.ret rfl ?_ | (refine RUN.exit rfl ?_; dsimp only [xfind, xfB, Nat.beq]) | (refine RUN.seq rfl (fun κ__ h__ => ?_); subst h__) | (refine RUN.cond rfl (p := true) rfl (fun _ => ?_) (fun h__ => by cases h__)) | (refine RUN.cond rfl (p := false) rfl (fun h__ => by cases h__) (fun _ => ?_)) | refine ⟨by first | trivial | omega | (and_intros <;> first | trivial | rfl | omega) | rfl, ?_⟩))
        generalize s1.again [ci] = s2 at r1 r2 r3 r4 r5 ⊢
        rw [wk, r2, r3]
        refine fork_intro (fun h9 => absurd h9 (by simp)) (fun _ => ?_)
        (repeat (first | ((first | refine RUN.sreg hsp hkp rfl (fun κ__ h__ => ?_) | refine RUN.reg hsp hkp rfl (fun κ__ h__ => ?_)); dsimp only [e8, e9, e10, e11, e12, e13, e14, e15, e16, evV, vtD, rwD, recD, intlD, allB, not, evL, consG, consO, valG, valO, nilG, nilO, noMore, vtG, vtO, id, rhoC, hsetL, happ, happO, nodupC, inC, appN, Vt.o1, Vt.o2, vR, toCe_vf, By.eta, Ce.eta, Vt.eta, Rec.eta, Num.eta, Rec.C, go_sem, Nat.succ, Int.reduceToNat, Nat.reduceAdd, Nat.reduceMul, Nat.reduceSub, Int.reduceLT, Int.reduceLE, Int.reduceNeg, UInt64.reduceToNat, UInt32.reduceToNat, UInt8.reduceToNat]; subst h__) | refine RUN.block rfl ?_ | refine RUN.skip rfl ?_ | refine RUN.ret rfl ?_ | (refine RUN.exit rfl ?_; dsimp only [xfind, xfB, Nat.beq]) | (refine RUN.seq rfl (fun κ__ h__ => ?_); subst h__) | (refine RUN.cond rfl (p := true) rfl (fun _ => ?_) (fun h__ => by cases h__)) | (refine RUN.cond rfl (p := false) rfl (fun h__ => by cases h__) (fun _ => ?_)) | refine ⟨by first | trivial | omega | (and_intros <;> first | trivial | rfl | omega) | rfl, ?_⟩))
        rw [wk1]
        subst h1
        dsimp only [loopK, fits, L3, Vt.o1, Vt.o2, vR, IntL.A]
        refine ⟨(i + 1, s2), ⟨by dsimp only; omega, r1.congr' (by omega), r3, r4, r5⟩, by dsimp only; omega, [some 0, some 1], rfl, ?_, by first | rfl | trivial, ?_⟩
        · rw [r3]
          (try dsimp only [nodupN, inN, nget, sameS, sameH, sameO, SameL, look, lookB, hget, hlen, emptyC, Nat.beq, Nat.ble]) <;> and_intros <;> first | trivial | rfl | exact .inl rfl | exact .refl rfl | exact .inl ⟨rfl, rfl⟩ | exact .ms rfl rfl rfl rfl rfl | exact .ptr rfl rfl rfl rfl rfl | exact .any | exact .nil | exact .nilm | exact .bf ⟨.ptr rfl rfl rfl rfl rfl, trivial⟩ | exact .fn ⟨.ptr rfl rfl rfl rfl rfl, trivial⟩ | exact .inr ⟨rfl, rfl⟩ | exact SameC.agg ⟨.refl rfl, .tell (byD_tell _ ⟨true, []⟩ rfl) rfl, trivial⟩ | exact .tell (tellC_rw0 _ _) rfl | exact .tell (tellC_snoc rfl) rfl | exact SameC.agg (by (try dsimp only [SameL]); and_intros <;> first | trivial | exact .refl rfl | exact .ms rfl rfl rfl rfl rfl | exact .ptr rfl rfl rfl rfl rfl | exact .nil | exact .nilm | exact .any)
        · rw [r3]
          (try dsimp only [nodupN, inN, nget, sameS, sameH, sameO, SameL, look, lookB, hget, hlen, emptyC, Nat.beq, Nat.ble]) <;> and_intros <;> first | trivial | rfl | exact .inl rfl | exact .refl rfl | exact .inl ⟨rfl, rfl⟩ | exact .ms rfl rfl rfl rfl rfl | exact .ptr rfl rfl rfl rfl rfl | exact .any | exact .nil | exact .nilm | exact .bf ⟨.ptr rfl rfl rfl rfl rfl, trivial⟩ | exact .fn ⟨.ptr rfl rfl rfl rfl rfl, trivial⟩ | exact .inr ⟨rfl, rfl⟩ | exact SameC.agg ⟨.refl rfl, .tell (byD_tell _ ⟨true, []⟩ rfl) rfl, trivial⟩ | exact .tell (tellC_rw0 _ _) rfl | exact .tell (tellC_snoc rfl) rfl | exact SameC.agg (by (try dsimp only [SameL]); and_intros <;> first | trivial | exact .refl rfl | exact .ms rfl rfl rfl rfl rfl | exact .ptr rfl rfl rfl rfl rfl | exact .nil | exact .nilm | exact .any)
      · (repeat (first | ((first | refine RUN.sreg hsp hkp rfl (fun κ__ h__ => ?_) | refine RUN.reg hsp hkp rfl (fun κ__ h__ => ?_)); dsimp only [e8, e9, e10, e11, e12, e13, e14, e15, e16, evV, vtD, rwD, recD, intlD, allB, not, evL, consG, consO, valG, valO, nilG, nilO, noMore, vtG, vtO, id, rhoC, hsetL, happ, happO, nodupC, inC, appN, Vt.o1, Vt.o2, vR, toCe_vf, By.eta, Ce.eta, Vt.eta, Rec.eta, Num.eta, Rec.C, go_sem, Nat.succ, Int.reduceToNat, Nat.reduceAdd, Nat.reduceMul, Nat.reduceSub, Int.reduceLT, Int.reduceLE, Int.reduceNeg, UInt64.reduceToNat, UInt32.reduceToNat, UInt8.reduceToNat]; subst h__) | refine RUN.block rfl ?_ | refine RUN.skip rfl ?_ | refine RUN.ret rfl ?_ | (refine RUN.exit rfl ?_; dsimp only [xfind, xfB, Nat.beq]) | (refine RUN.seq rfl (fun κ__ h__ => ?_); subst h__) | (refine RUN.cond rfl (p := true) rfl (fun _ => ?_) (fun h__ => by cases h__)) | (refine RUN.cond rfl (p := false) rfl (fun h__ => by cases h__) (fun _ => ?_)) | refine ⟨by first | trivial | omega | (and_intros <;> first | trivial | rfl | omega) | rfl, ?_⟩))
        have wk : w64 ((i : Int) + 2) = (i : Int) + 1 + 1 := by rw [w64_in (by omega)]; omega
        have wk1 : w64 ((i : Int) + 1) = ((i + 1 : Nat) : Int) := by rw [w64_in (by omega)]; omega
        have r1 := q2.again (by omega) [0]
        have r2 := r1.boot (by omega)
        obtain ⟨r3, r4⟩ := again_alive s1 [0]
        have r5 := again_fine (t := [0]) q1
        have q1 := q1.low
        (repeat (first | ((first | refine RUN.sreg hsp hkp rfl (fun κ__ h__ => ?_) | refine RUN.reg hsp hkp rfl (fun κ__ h__ => ?_)); dsimp only [e8, e9, e10, e11, e12, e13, e14, e15, e16, evV, vtD, rwD, recD, intlD, allB, not, evL, consG, consO, valG, valO, nilG, nilO, noMore, vtG, vtO, id, rhoC, hsetL, happ, happO, nodupC, inC, appN, Vt.o1, Vt.o2, vR, toCe_vf, By.eta, Ce.eta, Vt.eta, Rec.eta, Num.eta, Rec.C, go_sem, Nat.succ, Int.reduceToNat, Nat.reduceAdd, Nat.reduceMul, Nat.reduceSub, Int.reduceLT, Int.reduceLE, Int.reduceNeg, UInt64.reduceToNat, UInt32.reduceToNat, UInt8.reduceToNat]; subst h__) | refine RUN.block rfl ?_ | refine RUN.skip rfl ?_ | refine RUN.ret rfl ?_ | (refine RUN.exit rfl ?_; dsimp only [xfind, xfB, Nat.beq]) | (refine RUN.seq rfl (fun κ__ h__ => ?_); subst h__) | (refine RUN.cond rfl (p := true) rfl (fun _ => ?_) (fun h__ => by cases h__)) | (refine RUN.cond rfl (p := false) rfl (fun h__ => by cases h__) (fun _ => ?_)) | refine ⟨by first | trivial | omega | (and_intros <;> first | trivial | rfl | omega) | rfl, ?_⟩))
        generalize s1.again [0] = s2 at r1 r2 r3 r4 r5 ⊢
        rw [wk, r2, r3]
        refine fork_intro (fun h9 => absurd h9 (by simp)) (fun _ => ?_)
        (repeat (first | ((first | refine RUN.sreg hsp hkp rfl (fun κ__ h__ => ?_) | refine RUN.reg hsp hkp rfl (fun κ__ h__ => ?_)); dsimp only [e8, e9, e10, e11, e12, e13, e14, e15, e16, evV, vtD, rwD, recD, intlD, allB, not, evL, consG, consO, valG, valO, nilG, nilO, noMore, vtG, vtO, id, rhoC, hsetL, happ, happO, nodupC, inC, appN, Vt.o1, Vt.o2, vR, toCe_vf, By.eta, Ce.eta, Vt.eta, Rec.eta, Num.eta, Rec.C, go_sem, Nat.succ, Int.reduceToNat, Nat.reduceAdd, Nat.reduceMul, Nat.reduceSub, Int.reduceLT, Int.reduceLE, Int.reduceNeg, UInt64.reduceToNat, UInt32.reduceToNat, UInt8.reduceToNat]; subst h__) | refine RUN.block rfl ?_ | refine RUN.skip rfl ?_ | refine RUN.ret rfl ?_ | (refine RUN.exit rfl ?_; dsimp only [xfind, xfB, Nat.beq]) | (refine RUN.seq rfl (fun κ__ h__ => ?_); subst h__) | (refine RUN.cond rfl (p := true) rfl (fun _ => ?_) (fun h__ => by cases h__)) | (refine RUN.cond rfl (p := false) rfl (fun h__ => by cases h__) (fun _ => ?_)) | refine ⟨by first | trivial | omega | (and_intros <;> first | trivial | rfl | omega) | rfl, ?_⟩))
        rw [wk1]
        subst h1
        dsimp only [loopK, fits, L3, Vt.o1, Vt.o2, vR, IntL.A]
        refine ⟨(i + 1, s2), ⟨by dsimp only; omega, r1.congr' (by omega), r3, r4, r5⟩, by dsimp only; omega, [some 0, some 1], rfl, ?_, by first | rfl | trivial, ?_⟩
        · rw [r3]
          (try dsimp only [nodupN, inN, nget, sameS, sameH, sameO, SameL, look, lookB, hget, hlen, emptyC, Nat.beq, Nat.ble]) <;> and_intros <;> first | trivial | rfl | exact .inl rfl | exact .refl rfl | exact .inl ⟨rfl, rfl⟩ | exact .ms rfl rfl rfl rfl rfl | exact .ptr rfl rfl rfl rfl rfl | exact .any | exact .nil | exact .nilm | exact .bf ⟨.ptr rfl rfl rfl rfl rfl, trivial⟩ | exact .fn ⟨.ptr rfl rfl rfl rfl rfl, trivial⟩ | exact .inr ⟨rfl, rfl⟩ | exact SameC.agg ⟨.refl rfl, .tell (byD_tell _ ⟨true, []⟩ rfl) rfl, trivial⟩ | exact .tell (tellC_rw0 _ _) rfl | exact .tell (tellC_snoc rfl) rfl | exact SameC.agg (by (try dsimp only [SameL]); and_intros <;> first | trivial | exact .refl rfl | exact .ms rfl rfl rfl rfl rfl | exact .ptr rfl rfl rfl rfl rfl | exact .nil | exact .nilm | exact .any)
        · rw [r3]
          (try dsimp only [nodupN, inN, nget, sameS, sameH, sameO, SameL, look, lookB, hget, hlen, emptyC, Nat.beq, Nat.ble]) <;> and_intros <;> first | trivial | rfl | exact .inl rfl | exact .refl rfl | exact .inl ⟨rfl, rfl⟩ | exact .ms rfl rfl rfl rfl rfl | exact .ptr rfl rfl rfl rfl rfl | exact .any | exact .nil | exact .nilm | exact .bf ⟨.ptr rfl rfl rfl rfl rfl, trivial⟩ | exact .fn ⟨.ptr rfl rfl rfl rfl rfl, trivial⟩ | exact .inr ⟨rfl, rfl⟩ | exact SameC.agg ⟨.refl rfl, .tell (byD_tell _ ⟨true, []⟩ rfl) rfl, trivial⟩ | exact .tell (tellC_rw0 _ _) rfl | exact .tell (tellC_snoc rfl) rfl | exact SameC.agg (by (try dsimp only [SameL]); and_intros <;> first | trivial | exact .refl rfl | exact .ms rfl rfl rfl rfl rfl | exact .ptr rfl rfl rfl rfl rfl | exact .nil | exact .nilm | exact .any)
    · (repeat (first | ((first | refine RUN.sreg hsp hkp rfl (fun κ__ h__ => ?_) | refine RUN.reg hsp hkp rfl (fun κ__ h__ => ?_)); dsimp only [e8, e9, e10, e11, e12, e13, e14, e15, e16, evV, vtD, rwD, recD, intlD, allB, not, evL, consG, consO, valG, valO, nilG, nilO, noMore, vtG, vtO, id, rhoC, hsetL, happ, happO, nodupC, inC, appN, Vt.o1, Vt.o2, vR, toCe_vf, By.eta, Ce.eta, Vt.eta, Rec.eta, Num.eta, Rec.C, go_sem, Nat.succ, Int.reduceToNat, Nat.reduceAdd, Nat.reduceMul, Nat.reduceSub, Int.reduceLT, Int.reduceLE, Int.reduceNeg, UInt64.reduceToNat, UInt32.reduceToNat, UInt8.reduceToNat]; subst h__) | refine RUN.block rfl ?_ | refine RUN.skip rfl ?_ | refine RUN.ret rfl ?_ | (refine RUN.exit rfl ?_; dsimp only [xfind, xfB, Nat.beq]) | (refine RUN.seq rfl (fun κ__ h__ => ?_); subst h__) | (refine RUN.cond rfl (p := true) rfl (fun _ => ?_) (fun h__ => by cases h__)) | (refine RUN.cond rfl (p := false) rfl (fun h__ => by cases h__) (fun _ => ?_)) | refine ⟨by first | trivial | omega | (and_intros <;> first | trivial | rfl | omega) | rfl, ?_⟩))
      rw [hκ]; exact leaf_true rfl
  · (repeat (first | ((first | refine RUN.sreg hsp hkp rfl (fun κ__ h__ => ?_) | refine RUN.reg hsp hkp rfl (fun κ__ h__ => ?_)); dsimp only [e8, e9, e10, e11, e12, e13, e14, e15, e16, evV, vtD, rwD, recD, intlD, allB, not, evL, consG, consO, valG, valO, nilG, nilO, noMore, vtG, vtO, id, rhoC, hsetL, happ, happO, nodupC, inC, appN, Vt.o1, Vt.o2, vR, toCe_vf, By.eta, Ce.eta, Vt.eta, Rec.eta, Num.eta, Rec.C, go_sem, Nat.succ, Int.reduceToNat, Nat.reduceAdd, Nat.reduceMul, Nat.reduceSub, Int.reduceLT, Int.reduceLE, Int.reduceNeg, UInt64.reduceToNat, UInt32.reduceToNat, UInt8.reduceToNat]; subst h__) | refine RUN.block rfl ?_ | refine RUN.skip rfl ?_ | refine RUN.ret rfl ?_ | (refine RUN.exit rfl ?_; dsimp only [xfind, xfB, Nat.beq]) | (refine RUN.seq rfl (fun κ__ h__ => ?_); subst h__) | (refine RUN.cond rfl (p := true) rfl (fun _ => ?_) (fun h__ => by cases h__)) | (refine RUN.cond rfl (p := false) rfl (fun h__ => by cases h__) (fun _ => ?_)) | refine ⟨by first | trivial | omega | (and_intros <;> first | trivial | rfl | omega) | rfl, ?_⟩))
    rw [hκ]; exact leaf_true rfl
end Go.Abs
