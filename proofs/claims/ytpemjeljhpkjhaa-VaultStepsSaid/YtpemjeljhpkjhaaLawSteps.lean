/-
  Own work. Conditions: none. The vault's plain laws: accounts in a row. The code of a law in the short form. (Own work; printed by our own program.) The walk of the law VaultSteps.
-/
import Derived.Test.YtpemjeljhpkjhaaVaC
set_option linter.unusedVariables false
set_option linter.unusedSimpArgs false
set_option linter.unnecessarySimpa false
namespace Go.Abs
open Go.Proofs
set_option maxRecDepth 100000

/-- A record by the i-th name. -/
def rNm (n : Int) (b : By) (i : Nat) : Rec := { recV n b with name := lstF nmL i }
theorem rNm_good (n : Int) (b : By) (i : Nat) (hi : i < 10) : (rNm n b i).good := by
  obtain ⟨h1, h2, h3⟩ := recV_good n b
  refine ⟨?_, h2, h3⟩
  have hn := nmL_name i hi
  unfold Rec.ok at h1 ⊢
  simp only [Bool.and_eq_true] at h1 ⊢
  obtain ⟨a1, a2, a3, a4⟩ := h1
  exact ⟨a1, a2, hn, a4⟩
def firstA (f : Nat → Rec) (i : Nat) (k : Nat) : Option Rec := if k < i then some (f k) else none
theorem nmL_inj : ∀ i, i < 10 → ∀ j, j < 10 → (lstF nmL i == lstF nmL j) = decide (i = j) := by decide
theorem firstA_named {f : Nat → Rec} {i : Nat} (hi : i ≤ 8) (hf : ∀ k, k < 10 → (f k).name = lstF nmL k) {j : Nat} (hj : j < 10) : firstI (named (firstA f i) (lstF nmL j)) 8 = if j < i then (j : Int) else -1 := by
  have hn : ∀ k, k < 8 → named (firstA f i) (lstF nmL j) k = decide (k = j ∧ j < i) := fun k hk => by
    unfold named firstA
    by_cases h : k < i
    · simp only [if_pos h, hf k (by omega), nmL_inj k (by omega) j hj]
      rw [decide_eq_decide]
      omega
    · simp only [if_neg h]
      rw [eq_comm, decide_eq_false_iff_not]
      omega
  split
  · rename_i h
    refine firstI_is (k := j) (by omega) (by rw [hn j (by omega)]; simp [h]) fun x hx => ?_
    rw [hn x (by omega), decide_eq_false_iff_not]; omega
  · rename_i h
    have h1 := firstI_in (named (firstA f i) (lstF nmL j)) 8
    rcases Int.lt_or_le (firstI (named (firstA f i) (lstF nmL j)) 8) 0 with h2 | h2
    · omega
    · obtain ⟨a, b, _⟩ := firstI_some rfl h2
      rw [hn _ (by omega)] at b
      have := of_decide_eq_true b
      omega
theorem firstA_none {f : Nat → Rec} {i : Nat} (hi : i ≤ 8) : firstI (noneA (firstA f i)) 8 = if i < 8 then (i : Int) else -1 := by
  have hn : ∀ k, noneA (firstA f i) k = decide (i ≤ k) := fun k => by
    unfold noneA firstA
    by_cases h : k < i
    · simp only [if_pos h]; rw [eq_comm, decide_eq_false_iff_not]; omega
    · simp only [if_neg h]; rw [eq_comm, decide_eq_true_iff]; omega
  split
  · rename_i h
    exact firstI_is h (by rw [hn]; simp) (fun x hx => by rw [hn, decide_eq_false_iff_not]; omega)
  · rename_i h
    have h1 := firstI_in (noneA (firstA f i)) 8
    rcases Int.lt_or_le (firstI (noneA (firstA f i)) 8) 0 with h2 | h2
    · omega
    · obtain ⟨a, b, _⟩ := firstI_some rfl h2
      rw [hn] at b
      have := of_decide_eq_true b
      omega
theorem firstA_slot {f : Nat → Rec} {i : Nat} (hi : i < 8) (hf : ∀ k, k < 10 → (f k).name = lstF nmL k) : slotA (firstA f i) (lstF nmL i) = i := by
  unfold slotA
  rw [firstA_named (by omega) hf (by omega), if_neg (by omega : ¬ i < i), if_pos (by omega), firstA_none (by omega), if_pos hi]
theorem firstA_upd {f : Nat → Rec} {i : Nat} : updA (firstA f i) i (some (f i)) = firstA f (i + 1) := by
  funext k
  unfold updA firstA
  by_cases h : k = i
  · subst h; rw [if_pos rfl, if_pos (by omega)]
  · rw [if_neg h]
    by_cases h2 : k < i
    · rw [if_pos h2, if_pos (by omega)]
    · rw [if_neg h2, if_neg (by omega)]
theorem slot_of_free {A : Nat → Option Rec} (nm : TX) {j : Nat} (hj : j < 8) (hA : A j = none) : ∃ m : Nat, slotA A nm = m := by
  have h1 := firstI_in (named A nm) 8
  have h2 : 0 ≤ firstI (noneA A) 8 := by
    rcases Int.lt_or_le (firstI (noneA A) 8) 0 with h | h
    · have := firstI_none h j hj
      unfold noneA at this; rw [hA] at this; cases this
    · exact h
  refine ⟨(slotA A nm).toNat, ?_⟩
  unfold slotA
  split <;> omega
theorem firstA_len (f : Nat → Rec) (i : Nat) : ∀ n, (nmsA (firstA f i) n).length = min i n
  | 0 => by simp [nmsA]
  | n + 1 => by
    have ih := firstA_len f i n
    rw [nmsA]
    unfold firstA at ih ⊢
    by_cases h : n < i
    · simp only [if_pos h, List.length_append, List.length_cons, List.length_nil, ih]; omega
    · simp only [if_neg h, ih]; omega
theorem names_len {s : Vt} {A : Nat → Option Rec} {T : Int} (h : Acc s A T) : s.names.1 = (nmsA A 8).length := by
  show (s.nmTo 8).length = _
  rw [h.nm 8 (Nat.le_refl 8)]
open Go.Proofs
set_option maxRecDepth 100000
-- sentinel/sentinellaw6.VaultSteps
def N7 : Nat := 95
def keep7 : List Nat := [0, 1, 2, 3, 8, 9, 10, 11, 12, 13, 15, 18, 21, 30, 66, 81]
def res7 : List RV := [(.t 8)]
def c7 : CC :=
 (.seq (.reg [⟨(some 8), (.mov (.c (.bool false))), none, 2⟩] [])
 (.seq (.seq (.reg [⟨(some 14), (.call (.c (.fn 8 [])) []), none, 2⟩, ⟨(some 15), (.un .not (.t 14)), none, 2⟩] [])
 (.cond (.t 15)
 (.seq (.reg [⟨(some 8), (.mov (.c (.bool false))), none, 2⟩] [])
 .ret)
 .skip))
 (.seq (.seq (.reg [⟨(some 16), (.mov (.t 1)), none, 2⟩, ⟨(some 17), (.len false (.t 16)), none, 2⟩, ⟨(some 18), (.bin .gtr (.t 17) (.c (.int 60))), none, 2⟩] [])
 (.cond (.t 18)
 (.seq (.reg [⟨(some 8), (.mov (.c (.bool true))), none, 2⟩] [])
 .ret)
 .skip))
 (.seq (.reg [⟨(some 19), (.call (.c (.fn 9 [])) []), none, 2⟩, ⟨(some 9), (.mov (.t 19)), none, 2⟩] [])
 (.seq (.seq (.reg [⟨(some 20), (.mov (.t 9)), none, 2⟩, ⟨(some 21), (.eq false .ptr (.t 20) (.c .nilp)), none, 2⟩] [])
 (.cond (.t 21)
 (.seq (.reg [⟨(some 8), (.mov (.c (.bool false))), none, 2⟩] [])
 .ret)
 .skip))
 (.seq (.reg [⟨(some 22), (.mov (.t 2)), none, 2⟩, ⟨(some 23), (.call (.c (.fn 10 [])) [(.t 22), (.c (.int 9))]), none, 2⟩, ⟨(some 10), (.mov (.t 23)), none, 2⟩] [])
 (.seq (.reg [⟨(some 24), (.mov (.t 9)), none, 2⟩, ⟨(some 25), (.mov (.t 10)), none, 2⟩, ⟨(some 26), (.call (.c (.fn 11 [])) [(.t 24), (.t 25)]), none, 2⟩] [])
 (.seq (.seq (.reg [⟨(some 11), (.mov (.c (.int 0))), none, 2⟩] [])
 (.block 0 (.loop (.seq (.seq (.reg [⟨(some 27), (.mov (.t 11)), none, 2⟩, ⟨(some 28), (.mov (.t 3)), none, 2⟩, ⟨(some 29), (.call (.c (.fn 10 [])) [(.t 28), (.c (.int 7))]), none, 2⟩, ⟨(some 30), (.bin .lss (.t 27) (.t 29)), none, 2⟩] [])
 (.cond (.t 30)
 .skip
 (.exit 0)))
 (.seq (.block 1 (.seq (.reg [⟨(some 33), (.mov (.t 0)), none, 2⟩, ⟨(some 34), (.mov (.t 1)), none, 2⟩, ⟨(some 35), (.call (.c (.fn 13 [])) [(.t 33), (.t 34)]), none, 2⟩, ⟨(some 12), (.alloc (.agg [(.int 0), (.str []), (.sl true 0 0 (.agg []) true), (.u32 0), (.u32 0), (.u32 0), (.u32 0), (.u32 0), (.u32 0), (.u32 0), (.u32 0), (.u32 0), (.u32 0), (.u32 0), (.u32 0), (.u32 0), (.u32 0), (.u32 0), (.u32 0), (.sl true 0 0 (.agg []) true), (.int 0), (.int 0), (.int 0)])), none, 2⟩, ⟨none, (.store (some 23) (.t 12) (.t 35)), none, 2⟩] [])
 (.seq (.reg [⟨(some 36), (.call (.c (.fn 20 [])) []), none, 2⟩, ⟨(some 37), (.mov (.t 11)), none, 2⟩, ⟨(some 38), (.iadS 1 (.t 36) (.t 37)), none, 2⟩, ⟨(some 39), (.load none (.t 38)), none, 2⟩, ⟨(some 40), (.fad 1 (.t 12)), none, 2⟩, ⟨none, (.store none (.t 40) (.t 39)), none, 2⟩] [])
 (.seq (.reg [⟨(some 41), (.mov (.t 9)), none, 2⟩, ⟨(some 42), (.load (some 23) (.t 12)), none, 2⟩, ⟨(some 43), (.call (.c (.fn 12 [])) [(.t 41), (.t 42)]), none, 2⟩, ⟨(some 13), (.mov (.t 43)), none, 2⟩] [])
 (.seq (.reg [⟨(some 44), (.mov (.t 13)), none, 2⟩, ⟨(some 45), (.eq false .sc (.t 44) (.c (.int 0))), none, 2⟩, ⟨(some 46), (.mov (.t 11)), none, 2⟩, ⟨(some 47), (.bin .mul (.c (.int 2)) (.t 46)), none, 2⟩, ⟨(some 48), (.bin .add (.t 47) (.c (.int 2))), none, 2⟩, ⟨(some 49), (.mov (.t 10)), none, 2⟩, ⟨(some 50), (.bin .leq (.t 48) (.t 49)), none, 2⟩, ⟨(some 51), (.eq true .bool (.t 45) (.t 50)), none, 2⟩, ⟨(some 52), (.mov (.t 51)), none, 2⟩, ⟨(some 53), (.mov (.t 13)), (some (52, false)), 2⟩, ⟨(some 54), (.eq true .sc (.t 53) (.c (.int 0))), (some (52, false)), 2⟩, ⟨(some 55), (.mov (.t 54)), (some (52, false)), 2⟩, ⟨(some 56), (.mov (.t 13)), (some (55, true)), 2⟩, ⟨(some 57), (.eq true .sc (.t 56) (.c (.int 10))), (some (55, true)), 2⟩, ⟨(some 58), (.pick (.t 55) (.t 57) (.c (.bool false))), (some (52, false)), 2⟩, ⟨(some 59), (.pick (.t 52) (.c (.bool true)) (.t 58)), none, 2⟩, ⟨(some 60), (.mov (.t 59)), none, 2⟩, ⟨(some 61), (.mov (.t 9)), (some (60, false)), 2⟩, ⟨(some 62), (.call (.c (.fn 16 [])) [(.t 61)]), (some (60, false)), 2⟩, ⟨(some 63), (.mov (.t 13)), (some (60, false)), 2⟩, ⟨(some 64), (.eq true .sc (.t 63) (.c (.int 0))), (some (60, false)), 2⟩, ⟨(some 65), (.eq true .bool (.t 62) (.t 64)), (some (60, false)), 2⟩, ⟨(some 66), (.pick (.t 60) (.c (.bool true)) (.t 65)), none, 2⟩] [])
 (.cond (.t 66)
 (.seq (.reg [⟨(some 8), (.mov (.c (.bool false))), none, 2⟩] [])
 .ret)
 .skip))))))
 (.reg [⟨(some 31), (.mov (.t 11)), none, 2⟩, ⟨(some 32), (.bin .add (.t 31) (.c (.int 1))), none, 2⟩, ⟨(some 11), (.mov (.t 32)), none, 2⟩] []))))))
 (.seq (.seq (.reg [⟨(some 67), (.mov (.t 9)), none, 2⟩, ⟨(some 68), (.call (.c (.fn 16 [])) [(.t 67)]), none, 2⟩, ⟨(some 69), (.mov (.t 68)), none, 2⟩, ⟨(some 70), (.mov (.t 9)), (some (69, true)), 2⟩, ⟨(some 71), (.mov (.t 0)), (some (69, true)), 2⟩, ⟨(some 72), (.mov (.t 1)), (some (69, true)), 2⟩, ⟨(some 73), (.call (.c (.fn 13 [])) [(.t 71), (.t 72)]), (some (69, true)), 2⟩, ⟨(some 74), (.call (.c (.fn 12 [])) [(.t 70), (.t 73)]), (some (69, true)), 2⟩, ⟨(some 75), (.eq true .sc (.t 74) (.c (.int 10))), (some (69, true)), 2⟩, ⟨(some 76), (.mov (.t 75)), (some (69, true)), 2⟩, ⟨(some 77), (.mov (.t 9)), (some (76, false)), 2⟩, ⟨(some 78), (.call (.c (.fn 22 [])) [(.t 77), (.c (.str [97]))]), (some (76, false)), 2⟩, ⟨(some 79), (.eq true .sc (.t 78) (.c (.int 10))), (some (76, false)), 2⟩, ⟨(some 80), (.pick (.t 76) (.c (.bool true)) (.t 79)), (some (69, true)), 2⟩, ⟨(some 81), (.pick (.t 69) (.t 80) (.c (.bool false))), none, 2⟩] [])
 (.cond (.t 81)
 (.seq (.reg [⟨(some 8), (.mov (.c (.bool false))), none, 2⟩] [])
 .ret)
 .skip))
 (.seq (.reg [⟨(some 82), (.mov (.t 9)), none, 2⟩, ⟨(some 83), (.call (.c (.fn 14 [])) [(.t 82), (.c (.sl true 0 0 (.agg []) true))]), none, 2⟩] [])
 (.seq (.reg [⟨(some 84), (.mov (.t 9)), none, 2⟩, ⟨(some 85), (.call (.c (.fn 16 [])) [(.t 84)]), none, 2⟩, ⟨(some 86), (.un .not (.t 85)), none, 2⟩, ⟨(some 87), (.mov (.t 86)), none, 2⟩, ⟨(some 88), (.mov (.t 9)), (some (87, true)), 2⟩, ⟨(some 89), (.mov (.t 0)), (some (87, true)), 2⟩, ⟨(some 90), (.mov (.t 1)), (some (87, true)), 2⟩, ⟨(some 91), (.call (.c (.fn 13 [])) [(.t 89), (.t 90)]), (some (87, true)), 2⟩, ⟨(some 92), (.call (.c (.fn 12 [])) [(.t 88), (.t 91)]), (some (87, true)), 2⟩, ⟨(some 93), (.eq false .sc (.t 92) (.c (.int 0))), (some (87, true)), 2⟩, ⟨(some 94), (.pick (.t 87) (.t 93) (.c (.bool false))), none, 2⟩, ⟨(some 8), (.mov (.t 94)), none, 2⟩] [])
 .ret)))))))))))
theorem o7 : FnOK Try.prog 7 N7 res7 c7 := ⟨_, _, Try.f7.results.toList, [], pures, Try.func7, show _ = some (Try.f7.body.getD .skip) by kernel_rfl, (Array.toArray_toList).symm, by kernel_rfl, by kernel_rfl, by kernel_rfl, by kernel_rfl, follows, callFunc_enter Try.func7 (by kernel_rfl) (by kernel_rfl)⟩
open Go.Proofs
set_option maxRecDepth 100000

/-- The states between the calls. -/
structure Stp (n : Int) (b : By) (k : Int) (i : Nat) (s : Vt) : Prop where
  fine : s.fine
  left : s.left ≤ 9
  acc : ∃ A T, Acc s A T ∧ T ≤ 20 ∧ A 7 = none
  way : (s.dead = false ∧ 0 ≤ s.left ∧ s.left = k - 2 * i ∧ Acc s (firstA (rNm n b) i) (1 + i)) ∨ (s.dead = true ∧ k < 2 * i)
theorem Stp.put {n : Int} {b : By} {k : Int} {i : Nat} {s : Vt} (h : Stp n b k i s) (hi : i < 7) :
    ∃ e s', s.put (rNm n b i) = (e, s') ∧ Stp n b k (i + 1) s' ∧ ((e = 0 ∧ s'.dead = false ∧ 2 * (i : Int) + 2 ≤ k) ∨ (e = 10 ∧ s'.dead = true ∧ k < 2 * (i : Int) + 2)) := by
  have hg := rNm_good n b i (by omega)
  have hlen := out_len hg.ok
  have hf := put_fine (r := rNm n b i) h.fine (by omega)
  have hL := left_put (s := s) (rNm n b i)
  have hl := h.left
  obtain ⟨A, T, a1, a2, a3⟩ := h.acc
  rcases h.way with ⟨w1, w2, w3, w4⟩ | ⟨w1, w2⟩
  · have hs : slotA (firstA (rNm n b) i) (rNm n b i).name = i := firstA_slot (by omega) (fun _ _ => rfl)
    by_cases h2 : 2 ≤ s.left
    · obtain ⟨p1, p2, p3, p4, p5⟩ := w4.put hg (by omega) w1 (.inr h2) hs
      rw [firstA_upd] at p2
      have p2 := p2.mono (T' := 1 + ((i + 1 : Nat) : Int)) (by omega)
      have p5 : (s.put (rNm n b i)).2.left = s.left - 2 := by rw [p5, leftBy, if_neg (by omega)]
      exact ⟨_, _, Prod.eta _ |>.symm, ⟨hf, by omega, ⟨_, _, p2, by omega, by simp only [firstA]; rw [if_neg (by omega)]⟩, .inl ⟨p4, by omega, by omega, p2⟩⟩, .inl ⟨p1, p4, by omega⟩⟩
    · have hw : s.wrOK (i : Int) (rNm n b i).outW = false ∧ (s.write (i : Int) (rNm n b i).outW).dead = true ∧ ∀ j, ((s.write (i : Int) (rNm n b i).outW).c j).now = (s.c j).now := by
        rcases (by omega : s.left = 0 ∨ s.left = 1) with h3 | h3
        · have := write_none (s := s) (i : Int) (rNm n b i).outW (.inr h3)
          rw [this.1]; exact ⟨this.2, rfl, fun _ => rfl⟩
        · have := write_half (s := s) (i : Int) (rNm n b i).outW w1 h3
          rw [this.1]
          refine ⟨this.2, rfl, fun j => ?_⟩
          dsimp only
          by_cases hj : j = (wrAt s i).toNat
          · subst hj; rw [updC_self]
          · rw [updC_ne _ _ hj]
      have e : s.put (rNm n b i) = (10, s.write (i : Int) (rNm n b i).outW) := by
        unfold Vt.put
        rw [if_neg (by rw [w1]; exact Bool.false_ne_true), if_pos hg.ok, w4.slot, hs, if_neg (by omega), hw.1]; rfl
      rw [e] at hf hL ⊢
      have hL : (s.write (i : Int) (rNm n b i).outW).left ≤ s.left := hL
      exact ⟨_, _, rfl, ⟨hf, by omega, ⟨A, T, a1.congr fun j _ => by rw [hw.2.2 j], a2, a3⟩, .inr ⟨hw.2.1, by omega⟩⟩, .inr ⟨rfl, hw.2.1, by omega⟩⟩
  · have e := put_dead (rNm n b i) w1
    exact ⟨_, _, e, ⟨h.fine, hl, ⟨A, T, a1, a2, a3⟩, .inr ⟨w1, by omega⟩⟩, .inr ⟨rfl, w1, by omega⟩⟩
def L7 (n : Int) (b : By) (f c : Int) : LI where
  X := Nat × Vt
  x0 := (0, vtN.fail (within1 f 9))
  pre x := (x.1 : Int) ≤ within1 c 7 ∧ Stp n b (within1 f 9) x.1 x.2
  inv x := ([(0, .int n), (1, b.A), (3, .int c), (9, .ptr 1 0 0), (10, .int (within1 f 9)), (11, .int x.1)], [x.2.o2, x.2.o1 0])
  mu x := 7 - x.1
  ren := true
set_option maxHeartbeats 4000000 in
theorem fn7 (n : Int) (b : By) (f c : Int) : ACalls Try.prog 7 [.int n, b.A, .int f, .int c] [] (fun a h => a = .bool true ∧ h = []) := by
  refine o7.runS [(8, e8), (9, e9), (10, e10), (11, e11), (12, e12), (13, e13), (14, e14), (16, e16), (20, e20), (22, e22)] keep7 0 (fun _ _ _ => L7 n b f c) (own := false) (kn := 0)
    (.cons ok8 o8.enter (.cons ok9 o9.enter (.cons ok10 o10.enter (.cons ok11 o11.enter (.cons ok12 o12.enter (.cons ok13 o13.enter (.cons ok14 o14.enter (.cons ok16 o16.enter (.cons ok20 o20.enter (.cons ok22 o22.enter .nil)))))))))) (Nat.le_of_ble_eq_true rfl) rfl (Nat.le_refl _) (fun Γ hsp hkp hk0 hinv κ hκ => ?_)
  dsimp only [keep7] at hkp
  (repeat (first | ((first | refine RUN.sreg hsp hkp rfl (fun κ__ h__ => ?_) | refine RUN.reg hsp hkp rfl (fun κ__ h__ => ?_)); dsimp only [e8, e9, e10, e11, e12, e13, e14, e16, e20, e22, evV, vtD, rwD, recD, intlD, allB, not, evL, consG, consO, valG, valO, nilG, nilO, noMore, vtG, vtO, id, rhoC, hsetL, happ, happO, nodupC, inC, appN, Vt.o1, Vt.o2, vR, toCe_vf, By.eta, Ce.eta, Vt.eta, Rec.eta, Num.eta, Rec.C, sfn, go_sem, Nat.succ, Int.reduceToNat, Nat.reduceAdd, Nat.reduceMul, Nat.reduceSub, Int.reduceLT, Int.reduceLE, Int.reduceNeg, UInt64.reduceToNat, UInt32.reduceToNat, UInt8.reduceToNat]; subst h__) | refine RUN.block rfl ?_ | refine RUN.skip rfl ?_ | refine RUN.ret rfl ?_ | (refine RUN.exit rfl ?_; dsimp only [xfind, xfB, Nat.beq]) | (refine RUN.seq rfl (fun κ__ h__ => ?_); subst h__) | (refine RUN.cond rfl (p := true) rfl (fun _ => ?_) (fun h__ => by cases h__)) | (refine RUN.cond rfl (p := false) rfl (fun h__ => by cases h__) (fun _ => ?_)) | refine ⟨by first | trivial | omega | (and_intros <;> first | trivial | rfl | omega) | rfl, ?_⟩))
  refine RUN.cond rfl rfl (fun hc => ?_) (fun hc => ?_)
  · (repeat (first | ((first | refine RUN.sreg hsp hkp rfl (fun κ__ h__ => ?_) | refine RUN.reg hsp hkp rfl (fun κ__ h__ => ?_)); dsimp only [e8, e9, e10, e11, e12, e13, e14, e16, e20, e22, evV, vtD, rwD, recD, intlD, allB, not, evL, consG, consO, valG, valO, nilG, nilO, noMore, vtG, vtO, id, rhoC, hsetL, happ, happO, nodupC, inC, appN, Vt.o1, Vt.o2, vR, toCe_vf, By.eta, Ce.eta, Vt.eta, Rec.eta, Num.eta, Rec.C, sfn, go_sem, Nat.succ, Int.reduceToNat, Nat.reduceAdd, Nat.reduceMul, Nat.reduceSub, Int.reduceLT, Int.reduceLE, Int.reduceNeg, UInt64.reduceToNat, UInt32.reduceToNat, UInt8.reduceToNat]; subst h__) | refine RUN.block rfl ?_ | refine RUN.skip rfl ?_ | refine RUN.ret rfl ?_ | (refine RUN.exit rfl ?_; dsimp only [xfind, xfB, Nat.beq]) | (refine RUN.seq rfl (fun κ__ h__ => ?_); subst h__) | (refine RUN.cond rfl (p := true) rfl (fun _ => ?_) (fun h__ => by cases h__)) | (refine RUN.cond rfl (p := false) rfl (fun h__ => by cases h__) (fun _ => ?_)) | refine ⟨by first | trivial | omega | (and_intros <;> first | trivial | rfl | omega) | rfl, ?_⟩))
    rw [hκ]; exact leaf_true rfl
  have hb : b.l.length ≤ 60 := by have := of_decide_eq_false hc; omega
  have hk := within1_in (a := f) (b := 9) (by omega)
  have hm := within1_in (a := c) (b := 7) (by omega)
  have s0 : Stp n b (within1 f 9) 0 (vtN.fail (within1 f 9)) := by
    have e : (vtN.fail (within1 f 9)).left = within1 f 9 := by show (if within1 f 9 < -1 then -1 else within1 f 9) = _; rw [if_neg (by omega)]
    have a : Acc (vtN.fail (within1 f 9)) (firstA (rNm n b) 0) 1 := by
      have : firstA (rNm n b) 0 = fun _ => none := by funext k; unfold firstA; rw [if_neg (by omega)]
      rw [this]; exact vtN_acc.congr fun _ _ => rfl
    exact ⟨fail_fine vtN_fine, by omega, ⟨_, _, a, by omega, rfl⟩, .inl ⟨vtN_alive.1, by omega, by rw [e]; simp, a⟩⟩
  (repeat (first | ((first | refine RUN.sreg hsp hkp rfl (fun κ__ h__ => ?_) | refine RUN.reg hsp hkp rfl (fun κ__ h__ => ?_)); dsimp only [e8, e9, e10, e11, e12, e13, e14, e16, e20, e22, evV, vtD, rwD, recD, intlD, allB, not, evL, consG, consO, valG, valO, nilG, nilO, noMore, vtG, vtO, id, rhoC, hsetL, happ, happO, nodupC, inC, appN, Vt.o1, Vt.o2, vR, toCe_vf, By.eta, Ce.eta, Vt.eta, Rec.eta, Num.eta, Rec.C, sfn, go_sem, Nat.succ, Int.reduceToNat, Nat.reduceAdd, Nat.reduceMul, Nat.reduceSub, Int.reduceLT, Int.reduceLE, Int.reduceNeg, UInt64.reduceToNat, UInt32.reduceToNat, UInt8.reduceToNat]; subst h__) | refine RUN.block rfl ?_ | refine RUN.skip rfl ?_ | refine RUN.ret rfl ?_ | (refine RUN.exit rfl ?_; dsimp only [xfind, xfB, Nat.beq]) | (refine RUN.seq rfl (fun κ__ h__ => ?_); subst h__) | (refine RUN.cond rfl (p := true) rfl (fun _ => ?_) (fun h__ => by cases h__)) | (refine RUN.cond rfl (p := false) rfl (fun h__ => by cases h__) (fun _ => ?_)) | refine ⟨by first | trivial | omega | (and_intros <;> first | trivial | rfl | omega) | rfl, ?_⟩))
  refine RUN.loop hk0 hinv rfl rfl (L := L7 n b f c) rfl rfl rfl ?_ ?_ (fun x hx κ1 h1 => ?_)
  · dsimp only [L7, fits, Vt.o1, Vt.o2, vR, IntL.A]
    refine ⟨[some 0, some 1], rfl, ?_, by first | rfl | trivial, ?_⟩
    · (try dsimp only [nodupN, inN, nget, sameS, sameH, sameO, SameL, look, lookB, hget, hlen, emptyC, Nat.beq, Nat.ble]) <;> and_intros <;> first | trivial | rfl | exact .inl rfl | exact .refl rfl | exact .inl ⟨rfl, rfl⟩ | exact .ms rfl rfl rfl rfl rfl | exact .ptr rfl rfl rfl rfl rfl | exact .any | exact .nil | exact .nilm | exact .bf ⟨.ptr rfl rfl rfl rfl rfl, trivial⟩ | exact .fn ⟨.ptr rfl rfl rfl rfl rfl, trivial⟩ | exact .inr ⟨rfl, rfl⟩ | exact SameC.agg ⟨.refl rfl, .tell (byD_tell _ ⟨true, []⟩ rfl) rfl, trivial⟩ | exact .tell (tellC_rw0 _ _) rfl | exact .tell (tellC_snoc rfl) rfl | exact SameC.agg (by (try dsimp only [SameL]); and_intros <;> first | trivial | exact .refl rfl | exact .ms rfl rfl rfl rfl rfl | exact .ptr rfl rfl rfl rfl rfl | exact .nil | exact .nilm | exact .any)
    · (try dsimp only [nodupN, inN, nget, sameS, sameH, sameO, SameL, look, lookB, hget, hlen, emptyC, Nat.beq, Nat.ble]) <;> and_intros <;> first | trivial | rfl | exact .inl rfl | exact .refl rfl | exact .inl ⟨rfl, rfl⟩ | exact .ms rfl rfl rfl rfl rfl | exact .ptr rfl rfl rfl rfl rfl | exact .any | exact .nil | exact .nilm | exact .bf ⟨.ptr rfl rfl rfl rfl rfl, trivial⟩ | exact .fn ⟨.ptr rfl rfl rfl rfl rfl, trivial⟩ | exact .inr ⟨rfl, rfl⟩ | exact SameC.agg ⟨.refl rfl, .tell (byD_tell _ ⟨true, []⟩ rfl) rfl, trivial⟩ | exact .tell (tellC_rw0 _ _) rfl | exact .tell (tellC_snoc rfl) rfl | exact SameC.agg (by (try dsimp only [SameL]); and_intros <;> first | trivial | exact .refl rfl | exact .ms rfl rfl rfl rfl rfl | exact .ptr rfl rfl rfl rfl rfl | exact .nil | exact .nilm | exact .any)
  · exact ⟨hm.1, s0⟩
  obtain ⟨i, s⟩ := x
  obtain ⟨(hi : (i : Int) ≤ within1 c 7), (hS : Stp n b (within1 f 9) i s)⟩ := hx
  dsimp only [L7, Vt.o1, Vt.o2, vR]
  (repeat (first | ((first | refine RUN.sreg hsp hkp rfl (fun κ__ h__ => ?_) | refine RUN.reg hsp hkp rfl (fun κ__ h__ => ?_)); dsimp only [e8, e9, e10, e11, e12, e13, e14, e16, e20, e22, evV, vtD, rwD, recD, intlD, allB, not, evL, consG, consO, valG, valO, nilG, nilO, noMore, vtG, vtO, id, rhoC, hsetL, happ, happO, nodupC, inC, appN, Vt.o1, Vt.o2, vR, toCe_vf, By.eta, Ce.eta, Vt.eta, Rec.eta, Num.eta, Rec.C, sfn, go_sem, Nat.succ, Int.reduceToNat, Nat.reduceAdd, Nat.reduceMul, Nat.reduceSub, Int.reduceLT, Int.reduceLE, Int.reduceNeg, UInt64.reduceToNat, UInt32.reduceToNat, UInt8.reduceToNat]; subst h__) | refine RUN.block rfl ?_ | refine RUN.skip rfl ?_ | refine RUN.ret rfl ?_ | (refine RUN.exit rfl ?_; dsimp only [xfind, xfB, Nat.beq]) | (refine RUN.seq rfl (fun κ__ h__ => ?_); subst h__) | (refine RUN.cond rfl (p := true) rfl (fun _ => ?_) (fun h__ => by cases h__)) | (refine RUN.cond rfl (p := false) rfl (fun h__ => by cases h__) (fun _ => ?_)) | refine ⟨by first | trivial | omega | (and_intros <;> first | trivial | rfl | omega) | rfl, ?_⟩))
  refine RUN.cond rfl rfl (fun h2 => ?_) (fun h2 => ?_)
  · have h2 := of_decide_eq_true h2
    obtain ⟨e, s', hp, hS', hw⟩ := hS.put (by omega)
    have hl := hS.left
    have hlen := out_len (rNm_good n b i (by omega)).ok
    have w2 : w64 (w64 (2 * (i : Int)) + 2) = 2 * (i : Int) + 2 := by rw [w64_in (n := 2 * (i : Int)) (by omega), w64_in (by omega)]
    have w1 : w64 ((i : Int) + 1) = ((i + 1 : Nat) : Int) := by rw [w64_in (by omega)]; omega
    (repeat (first | ((first | refine RUN.sreg hsp hkp rfl (fun κ__ h__ => ?_) | refine RUN.reg hsp hkp rfl (fun κ__ h__ => ?_)); dsimp only [e8, e9, e10, e11, e12, e13, e14, e16, e20, e22, evV, vtD, rwD, recD, intlD, allB, not, evL, consG, consO, valG, valO, nilG, nilO, noMore, vtG, vtO, id, rhoC, hsetL, happ, happO, nodupC, inC, appN, Vt.o1, Vt.o2, vR, toCe_vf, By.eta, Ce.eta, Vt.eta, Rec.eta, Num.eta, Rec.C, sfn, go_sem, Nat.succ, Int.reduceToNat, Nat.reduceAdd, Nat.reduceMul, Nat.reduceSub, Int.reduceLT, Int.reduceLE, Int.reduceNeg, UInt64.reduceToNat, UInt32.reduceToNat, UInt8.reduceToNat]; subst h__) | refine RUN.block rfl ?_ | refine RUN.skip rfl ?_ | refine RUN.ret rfl ?_ | (refine RUN.exit rfl ?_; dsimp only [xfind, xfB, Nat.beq]) | (refine RUN.seq rfl (fun κ__ h__ => ?_); subst h__) | (refine RUN.cond rfl (p := true) rfl (fun _ => ?_) (fun h__ => by cases h__)) | (refine RUN.cond rfl (p := false) rfl (fun h__ => by cases h__) (fun _ => ?_)) | refine ⟨by first | trivial | omega | (and_intros <;> first | trivial | rfl | omega) | rfl, ?_⟩))
    simp only [Int.toNat_natCast]
    rw [show s.put (Rec.mk _ _ _ _ _ _ _ _ _) = (e, s') from hp]
    refine ⟨⟨by first | rfl | trivial, by omega, Nat.le_trans hlen (by decide)⟩, ?_⟩
    (repeat (first | ((first | refine RUN.sreg hsp hkp rfl (fun κ__ h__ => ?_) | refine RUN.reg hsp hkp rfl (fun κ__ h__ => ?_)); dsimp only [e8, e9, e10, e11, e12, e13, e14, e16, e20, e22, evV, vtD, rwD, recD, intlD, allB, not, evL, consG, consO, valG, valO, nilG, nilO, noMore, vtG, vtO, id, rhoC, hsetL, happ, happO, nodupC, inC, appN, Vt.o1, Vt.o2, vR, toCe_vf, By.eta, Ce.eta, Vt.eta, Rec.eta, Num.eta, Rec.C, sfn, go_sem, Nat.succ, Int.reduceToNat, Nat.reduceAdd, Nat.reduceMul, Nat.reduceSub, Int.reduceLT, Int.reduceLE, Int.reduceNeg, UInt64.reduceToNat, UInt32.reduceToNat, UInt8.reduceToNat]; subst h__) | refine RUN.block rfl ?_ | refine RUN.skip rfl ?_ | refine RUN.ret rfl ?_ | (refine RUN.exit rfl ?_; dsimp only [xfind, xfB, Nat.beq]) | (refine RUN.seq rfl (fun κ__ h__ => ?_); subst h__) | (refine RUN.cond rfl (p := true) rfl (fun _ => ?_) (fun h__ => by cases h__)) | (refine RUN.cond rfl (p := false) rfl (fun h__ => by cases h__) (fun _ => ?_)) | refine ⟨by first | trivial | omega | (and_intros <;> first | trivial | rfl | omega) | rfl, ?_⟩))
    rw [w2]
    rcases hw with ⟨rfl, hd, hle⟩ | ⟨rfl, hd, hle⟩
    · rw [decide_eq_true hle, hd]
      refine fork_intro (fun h => absurd h (by decide)) (fun _ => fork_intro (fun h => absurd h (by decide)) (fun _ => ?_))
      (repeat (first | ((first | refine RUN.sreg hsp hkp rfl (fun κ__ h__ => ?_) | refine RUN.reg hsp hkp rfl (fun κ__ h__ => ?_)); dsimp only [e8, e9, e10, e11, e12, e13, e14, e16, e20, e22, evV, vtD, rwD, recD, intlD, allB, not, evL, consG, consO, valG, valO, nilG, nilO, noMore, vtG, vtO, id, rhoC, hsetL, happ, happO, nodupC, inC, appN, Vt.o1, Vt.o2, vR, toCe_vf, By.eta, Ce.eta, Vt.eta, Rec.eta, Num.eta, Rec.C, sfn, go_sem, Nat.succ, Int.reduceToNat, Nat.reduceAdd, Nat.reduceMul, Nat.reduceSub, Int.reduceLT, Int.reduceLE, Int.reduceNeg, UInt64.reduceToNat, UInt32.reduceToNat, UInt8.reduceToNat]; subst h__) | refine RUN.block rfl ?_ | refine RUN.skip rfl ?_ | refine RUN.ret rfl ?_ | (refine RUN.exit rfl ?_; dsimp only [xfind, xfB, Nat.beq]) | (refine RUN.seq rfl (fun κ__ h__ => ?_); subst h__) | (refine RUN.cond rfl (p := true) rfl (fun _ => ?_) (fun h__ => by cases h__)) | (refine RUN.cond rfl (p := false) rfl (fun h__ => by cases h__) (fun _ => ?_)) | refine ⟨by first | trivial | omega | (and_intros <;> first | trivial | rfl | omega) | rfl, ?_⟩))
      rw [w1]
      subst h1
      dsimp only [loopK, fits, L7, Vt.o1, Vt.o2, vR]
      refine ⟨(i + 1, s'), ⟨by dsimp only; omega, hS'⟩, by dsimp only; omega, [some 0, some 1], rfl, ?_, by first | rfl | trivial, ?_⟩ <;> rw [hd]
      · (try dsimp only [nodupN, inN, nget, sameS, sameH, sameO, SameL, look, lookB, hget, hlen, emptyC, Nat.beq, Nat.ble]) <;> and_intros <;> first | trivial | rfl | exact .inl rfl | exact .refl rfl | exact .inl ⟨rfl, rfl⟩ | exact .ms rfl rfl rfl rfl rfl | exact .ptr rfl rfl rfl rfl rfl | exact .any | exact .nil | exact .nilm | exact .bf ⟨.ptr rfl rfl rfl rfl rfl, trivial⟩ | exact .fn ⟨.ptr rfl rfl rfl rfl rfl, trivial⟩ | exact .inr ⟨rfl, rfl⟩ | exact SameC.agg ⟨.refl rfl, .tell (byD_tell _ ⟨true, []⟩ rfl) rfl, trivial⟩ | exact .tell (tellC_rw0 _ _) rfl | exact .tell (tellC_snoc rfl) rfl | exact SameC.agg (by (try dsimp only [SameL]); and_intros <;> first | trivial | exact .refl rfl | exact .ms rfl rfl rfl rfl rfl | exact .ptr rfl rfl rfl rfl rfl | exact .nil | exact .nilm | exact .any)
      · (try dsimp only [nodupN, inN, nget, sameS, sameH, sameO, SameL, look, lookB, hget, hlen, emptyC, Nat.beq, Nat.ble]) <;> and_intros <;> first | trivial | rfl | exact .inl rfl | exact .refl rfl | exact .inl ⟨rfl, rfl⟩ | exact .ms rfl rfl rfl rfl rfl | exact .ptr rfl rfl rfl rfl rfl | exact .any | exact .nil | exact .nilm | exact .bf ⟨.ptr rfl rfl rfl rfl rfl, trivial⟩ | exact .fn ⟨.ptr rfl rfl rfl rfl rfl, trivial⟩ | exact .inr ⟨rfl, rfl⟩ | exact SameC.agg ⟨.refl rfl, .tell (byD_tell _ ⟨true, []⟩ rfl) rfl, trivial⟩ | exact .tell (tellC_rw0 _ _) rfl | exact .tell (tellC_snoc rfl) rfl | exact SameC.agg (by (try dsimp only [SameL]); and_intros <;> first | trivial | exact .refl rfl | exact .ms rfl rfl rfl rfl rfl | exact .ptr rfl rfl rfl rfl rfl | exact .nil | exact .nilm | exact .any)
    · rw [decide_eq_false (by omega), hd]
      refine fork_intro (fun h => absurd h (by decide)) (fun _ => fork_intro (fun _ => ?_) (fun h => absurd h (by decide)))
      (repeat (first | ((first | refine RUN.sreg hsp hkp rfl (fun κ__ h__ => ?_) | refine RUN.reg hsp hkp rfl (fun κ__ h__ => ?_)); dsimp only [e8, e9, e10, e11, e12, e13, e14, e16, e20, e22, evV, vtD, rwD, recD, intlD, allB, not, evL, consG, consO, valG, valO, nilG, nilO, noMore, vtG, vtO, id, rhoC, hsetL, happ, happO, nodupC, inC, appN, Vt.o1, Vt.o2, vR, toCe_vf, By.eta, Ce.eta, Vt.eta, Rec.eta, Num.eta, Rec.C, sfn, go_sem, Nat.succ, Int.reduceToNat, Nat.reduceAdd, Nat.reduceMul, Nat.reduceSub, Int.reduceLT, Int.reduceLE, Int.reduceNeg, UInt64.reduceToNat, UInt32.reduceToNat, UInt8.reduceToNat]; subst h__) | refine RUN.block rfl ?_ | refine RUN.skip rfl ?_ | refine RUN.ret rfl ?_ | (refine RUN.exit rfl ?_; dsimp only [xfind, xfB, Nat.beq]) | (refine RUN.seq rfl (fun κ__ h__ => ?_); subst h__) | (refine RUN.cond rfl (p := true) rfl (fun _ => ?_) (fun h__ => by cases h__)) | (refine RUN.cond rfl (p := false) rfl (fun h__ => by cases h__) (fun _ => ?_)) | refine ⟨by first | trivial | omega | (and_intros <;> first | trivial | rfl | omega) | rfl, ?_⟩))
      rw [w1]
      subst h1
      dsimp only [loopK, fits, L7, Vt.o1, Vt.o2, vR]
      refine ⟨(i + 1, s'), ⟨by dsimp only; omega, hS'⟩, by dsimp only; omega, [some 0, some 1], rfl, ?_, by first | rfl | trivial, ?_⟩ <;> rw [hd]
      · (try dsimp only [nodupN, inN, nget, sameS, sameH, sameO, SameL, look, lookB, hget, hlen, emptyC, Nat.beq, Nat.ble]) <;> and_intros <;> first | trivial | rfl | exact .inl rfl | exact .refl rfl | exact .inl ⟨rfl, rfl⟩ | exact .ms rfl rfl rfl rfl rfl | exact .ptr rfl rfl rfl rfl rfl | exact .any | exact .nil | exact .nilm | exact .bf ⟨.ptr rfl rfl rfl rfl rfl, trivial⟩ | exact .fn ⟨.ptr rfl rfl rfl rfl rfl, trivial⟩ | exact .inr ⟨rfl, rfl⟩ | exact SameC.agg ⟨.refl rfl, .tell (byD_tell _ ⟨true, []⟩ rfl) rfl, trivial⟩ | exact .tell (tellC_rw0 _ _) rfl | exact .tell (tellC_snoc rfl) rfl | exact SameC.agg (by (try dsimp only [SameL]); and_intros <;> first | trivial | exact .refl rfl | exact .ms rfl rfl rfl rfl rfl | exact .ptr rfl rfl rfl rfl rfl | exact .nil | exact .nilm | exact .any)
      · (try dsimp only [nodupN, inN, nget, sameS, sameH, sameO, SameL, look, lookB, hget, hlen, emptyC, Nat.beq, Nat.ble]) <;> and_intros <;> first | trivial | rfl | exact .inl rfl | exact .refl rfl | exact .inl ⟨rfl, rfl⟩ | exact .ms rfl rfl rfl rfl rfl | exact .ptr rfl rfl rfl rfl rfl | exact .any | exact .nil | exact .nilm | exact .bf ⟨.ptr rfl rfl rfl rfl rfl, trivial⟩ | exact .fn ⟨.ptr rfl rfl rfl rfl rfl, trivial⟩ | exact .inr ⟨rfl, rfl⟩ | exact SameC.agg ⟨.refl rfl, .tell (byD_tell _ ⟨true, []⟩ rfl) rfl, trivial⟩ | exact .tell (tellC_rw0 _ _) rfl | exact .tell (tellC_snoc rfl) rfl | exact SameC.agg (by (try dsimp only [SameL]); and_intros <;> first | trivial | exact .refl rfl | exact .ms rfl rfl rfl rfl rfl | exact .ptr rfl rfl rfl rfl rfl | exact .nil | exact .nilm | exact .any)
  · obtain ⟨A, T, a1, a2, a3⟩ := hS.acc
    have hl := hS.left
    have hg := recV_good n b
    have hlen := out_len hg.ok
    have b1 := a1.again_nil (by omega)
    obtain ⟨b2, b3⟩ := again_alive s []
    obtain ⟨m, hm⟩ := slot_of_free (recV n b).name (by omega) a3
    have b4 := (b1.put hg (by omega) b2 (.inl (by omega)) hm).1
    have low := hS.fine.low
    have tailE : s.dead = true → (s.put (recV n b)) = (10, s) ∧ s.gone [97] = (10, s) := fun h => ⟨put_dead _ h, gone_dead _ h⟩
    (repeat (first | ((first | refine RUN.sreg hsp hkp rfl (fun κ__ h__ => ?_) | refine RUN.reg hsp hkp rfl (fun κ__ h__ => ?_)); dsimp only [e8, e9, e10, e11, e12, e13, e14, e16, e20, e22, evV, vtD, rwD, recD, intlD, allB, not, evL, consG, consO, valG, valO, nilG, nilO, noMore, vtG, vtO, id, rhoC, hsetL, happ, happO, nodupC, inC, appN, Vt.o1, Vt.o2, vR, toCe_vf, By.eta, Ce.eta, Vt.eta, Rec.eta, Num.eta, Rec.C, sfn, go_sem, Nat.succ, Int.reduceToNat, Nat.reduceAdd, Nat.reduceMul, Nat.reduceSub, Int.reduceLT, Int.reduceLE, Int.reduceNeg, UInt64.reduceToNat, UInt32.reduceToNat, UInt8.reduceToNat]; subst h__) | refine RUN.block rfl ?_ | refine RUN.skip rfl ?_ | refine RUN.ret rfl ?_ | (refine RUN.exit rfl ?_; dsimp only [xfind, xfB, Nat.beq]) | (refine RUN.seq rfl (fun κ__ h__ => ?_); subst h__) | (refine RUN.cond rfl (p := true) rfl (fun _ => ?_) (fun h__ => by cases h__)) | (refine RUN.cond rfl (p := false) rfl (fun h__ => by cases h__) (fun _ => ?_)) | refine ⟨by first | trivial | omega | (and_intros <;> first | trivial | rfl | omega) | rfl, ?_⟩))
    refine fork_intro (fun hd => ?_) (fun hd => ?_)
    · obtain ⟨t1, t2⟩ := tailE hd
      rw [t1]
      dsimp only
      rw [t2]
      refine ⟨by omega, ⟨rfl, by omega, by omega⟩, fork_intro (fun h => absurd h (by decide)) (fun _ => ⟨⟨by first | rfl | trivial, by omega⟩, ?_⟩)⟩
      (repeat (first | ((first | refine RUN.sreg hsp hkp rfl (fun κ__ h__ => ?_) | refine RUN.reg hsp hkp rfl (fun κ__ h__ => ?_)); dsimp only [e8, e9, e10, e11, e12, e13, e14, e16, e20, e22, evV, vtD, rwD, recD, intlD, allB, not, evL, consG, consO, valG, valO, nilG, nilO, noMore, vtG, vtO, id, rhoC, hsetL, happ, happO, nodupC, inC, appN, Vt.o1, Vt.o2, vR, toCe_vf, By.eta, Ce.eta, Vt.eta, Rec.eta, Num.eta, Rec.C, sfn, go_sem, Nat.succ, Int.reduceToNat, Nat.reduceAdd, Nat.reduceMul, Nat.reduceSub, Int.reduceLT, Int.reduceLE, Int.reduceNeg, UInt64.reduceToNat, UInt32.reduceToNat, UInt8.reduceToNat]; subst h__) | refine RUN.block rfl ?_ | refine RUN.skip rfl ?_ | refine RUN.ret rfl ?_ | (refine RUN.exit rfl ?_; dsimp only [xfind, xfB, Nat.beq]) | (refine RUN.seq rfl (fun κ__ h__ => ?_); subst h__) | (refine RUN.cond rfl (p := true) rfl (fun _ => ?_) (fun h__ => by cases h__)) | (refine RUN.cond rfl (p := false) rfl (fun h__ => by cases h__) (fun _ => ?_)) | refine ⟨by first | trivial | omega | (and_intros <;> first | trivial | rfl | omega) | rfl, ?_⟩))
      rw [hκ]
      exact leaf_true (by show AV.bool (((s.again []).put (recV n b)).1 == 0) = _; rw [b4]; rfl)
    · (repeat (first | ((first | refine RUN.sreg hsp hkp rfl (fun κ__ h__ => ?_) | refine RUN.reg hsp hkp rfl (fun κ__ h__ => ?_)); dsimp only [e8, e9, e10, e11, e12, e13, e14, e16, e20, e22, evV, vtD, rwD, recD, intlD, allB, not, evL, consG, consO, valG, valO, nilG, nilO, noMore, vtG, vtO, id, rhoC, hsetL, happ, happO, nodupC, inC, appN, Vt.o1, Vt.o2, vR, toCe_vf, By.eta, Ce.eta, Vt.eta, Rec.eta, Num.eta, Rec.C, sfn, go_sem, Nat.succ, Int.reduceToNat, Nat.reduceAdd, Nat.reduceMul, Nat.reduceSub, Int.reduceLT, Int.reduceLE, Int.reduceNeg, UInt64.reduceToNat, UInt32.reduceToNat, UInt8.reduceToNat]; subst h__) | refine RUN.block rfl ?_ | refine RUN.skip rfl ?_ | refine RUN.ret rfl ?_ | (refine RUN.exit rfl ?_; dsimp only [xfind, xfB, Nat.beq]) | (refine RUN.seq rfl (fun κ__ h__ => ?_); subst h__) | (refine RUN.cond rfl (p := true) rfl (fun _ => ?_) (fun h__ => by cases h__)) | (refine RUN.cond rfl (p := false) rfl (fun h__ => by cases h__) (fun _ => ?_)) | refine ⟨by first | trivial | omega | (and_intros <;> first | trivial | rfl | omega) | rfl, ?_⟩))
      rw [hκ]
      exact leaf_true (by show AV.bool (((s.again []).put (recV n b)).1 == 0) = _; rw [b4]; rfl)
end Go.Abs
