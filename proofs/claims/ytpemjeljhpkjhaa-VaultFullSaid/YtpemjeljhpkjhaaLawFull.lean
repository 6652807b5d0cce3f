/-
  Own work. Conditions: none. The vault's plain laws: accounts in a row. The code of a law in the short form. (Own work; printed by our own program.) The walk of the law VaultFull.
-/
import Derived.Test.YtpemjeljhpkjhaaVaC
set_option linter.unusedVariables false
set_option linter.unusedSimpArgs false
set_option linter.unnecessarySimpa false
namespace Go.Abs
open Go.Proofs
set_option maxRecDepth 100000

/-- A record by the i-th name. -/
def rNm (n : Int) (b : By) (i : Nat) : Rec := { recV n b with name := lstF nmL i }
theorem rNm_good (n : Int) (b : By) (i : Nat) (hi : i < 10) : (rNm n b i).good := by
  obtain ⟨h1, h2, h3⟩ := recV_good n b
  refine ⟨?_, h2, h3⟩
  have hn := nmL_name i hi
  unfold Rec.ok at h1 ⊢
  simp only [Bool.and_eq_true] at h1 ⊢
  obtain ⟨a1, a2, a3, a4⟩ := h1
  exact ⟨a1, a2, hn, a4⟩
def firstA (f : Nat → Rec) (i : Nat) (k : Nat) : Option Rec := if k < i then some (f k) else none
theorem nmL_inj : ∀ i, i < 10 → ∀ j, j < 10 → (lstF nmL i == lstF nmL j) = decide (i = j) := by decide
theorem firstA_named {f : Nat → Rec} {i : Nat} (hi : i ≤ 8) (hf : ∀ k, k < 10 → (f k).name = lstF nmL k) {j : Nat} (hj : j < 10) : firstI (named (firstA f i) (lstF nmL j)) 8 = if j < i then (j : Int) else -1 := by
  have hn : ∀ k, k < 8 → named (firstA f i) (lstF nmL j) k = decide (k = j ∧ j < i) := fun k hk => by
    unfold named firstA
    by_cases h : k < i
    · simp only [if_pos h, hf k (by omega), nmL_inj k (by omega) j hj]
      rw [decide_eq_decide]
      omega
    · simp only [if_neg h]
      rw [eq_comm, decide_eq_false_iff_not]
      omega
  split
  · rename_i h
    refine firstI_is (k := j) (by omega) (by rw [hn j (by omega)]; simp [h]) fun x hx => ?_
    rw [hn x (by omega), decide_eq_false_iff_not]; omega
  · rename_i h
    have h1 := firstI_in (named (firstA f i) (lstF nmL j)) 8
    rcases Int.lt_or_le (firstI (named (firstA f i) (lstF nmL j)) 8) 0 with h2 | h2
    · omega
    · obtain ⟨a, b, _⟩ := firstI_some rfl h2
      rw [hn _ (by omega)] at b
      have := of_decide_eq_true b
      omega
theorem firstA_none {f : Nat → Rec} {i : Nat} (hi : i ≤ 8) : firstI (noneA (firstA f i)) 8 = if i < 8 then (i : Int) else -1 := by
  have hn : ∀ k, noneA (firstA f i) k = decide (i ≤ k) := fun k => by
    unfold noneA firstA
    by_cases h : k < i
    · simp only [if_pos h]; rw [eq_comm, decide_eq_false_iff_not]; omega
    · simp only [if_neg h]; rw [eq_comm, decide_eq_true_iff]; omega
  split
  · rename_i h
    exact firstI_is h (by rw [hn]; simp) (fun x hx => by rw [hn, decide_eq_false_iff_not]; omega)
  · rename_i h
    have h1 := firstI_in (noneA (firstA f i)) 8
    rcases Int.lt_or_le (firstI (noneA (firstA f i)) 8) 0 with h2 | h2
    · omega
    · obtain ⟨a, b, _⟩ := firstI_some rfl h2
      rw [hn] at b
      have := of_decide_eq_true b
      omega
theorem firstA_slot {f : Nat → Rec} {i : Nat} (hi : i < 8) (hf : ∀ k, k < 10 → (f k).name = lstF nmL k) : slotA (firstA f i) (lstF nmL i) = i := by
  unfold slotA
  rw [firstA_named (by omega) hf (by omega), if_neg (by omega : ¬ i < i), if_pos (by omega), firstA_none (by omega), if_pos hi]
theorem firstA_upd {f : Nat → Rec} {i : Nat} : updA (firstA f i) i (some (f i)) = firstA f (i + 1) := by
  funext k
  unfold updA firstA
  by_cases h : k = i
  · subst h; rw [if_pos rfl, if_pos (by omega)]
  · rw [if_neg h]
    by_cases h2 : k < i
    · rw [if_pos h2, if_pos (by omega)]
    · rw [if_neg h2, if_neg (by omega)]
theorem slot_of_free {A : Nat → Option Rec} (nm : TX) {j : Nat} (hj : j < 8) (hA : A j = none) : ∃ m : Nat, slotA A nm = m := by
  have h1 := firstI_in (named A nm) 8
  have h2 : 0 ≤ firstI (noneA A) 8 := by
    rcases Int.lt_or_le (firstI (noneA A) 8) 0 with h | h
    · have := firstI_none h j hj
      unfold noneA at this; rw [hA] at this; cases this
    · exact h
  refine ⟨(slotA A nm).toNat, ?_⟩
  unfold slotA
  split <;> omega
theorem firstA_len (f : Nat → Rec) (i : Nat) : ∀ n, (nmsA (firstA f i) n).length = min i n
  | 0 => by simp [nmsA]
  | n + 1 => by
    have ih := firstA_len f i n
    rw [nmsA]
    unfold firstA at ih ⊢
    by_cases h : n < i
    · simp only [if_pos h, List.length_append, List.length_cons, List.length_nil, ih]; omega
    · simp only [if_neg h, ih]; omega
theorem names_len {s : Vt} {A : Nat → Option Rec} {T : Int} (h : Acc s A T) : s.names.1 = (nmsA A 8).length := by
  show (s.nmTo 8).length = _
  rw [h.nm 8 (Nat.le_refl 8)]
open Go.Proofs
set_option maxRecDepth 100000
-- sentinel/sentinellaw6.VaultFull
def N5 : Nat := 107
def keep5 : List Nat := [0, 1, 2, 6, 7, 8, 9, 10, 11, 12, 14, 17, 20, 25, 54, 56, 95]
def res5 : List RV := [(.t 6)]
def c5 : CC :=
 (.seq (.reg [⟨(some 6), (.mov (.c (.bool false))), none, 2⟩] [])
 (.seq (.seq (.reg [⟨(some 13), (.call (.c (.fn 8 [])) []), none, 2⟩, ⟨(some 14), (.un .not (.t 13)), none, 2⟩] [])
 (.cond (.t 14)
 (.seq (.reg [⟨(some 6), (.mov (.c (.bool false))), none, 2⟩] [])
 .ret)
 .skip))
 (.seq (.seq (.reg [⟨(some 15), (.mov (.t 1)), none, 2⟩, ⟨(some 16), (.len false (.t 15)), none, 2⟩, ⟨(some 17), (.bin .gtr (.t 16) (.c (.int 60))), none, 2⟩] [])
 (.cond (.t 17)
 (.seq (.reg [⟨(some 6), (.mov (.c (.bool true))), none, 2⟩] [])
 .ret)
 .skip))
 (.seq (.reg [⟨(some 18), (.call (.c (.fn 9 [])) []), none, 2⟩, ⟨(some 7), (.mov (.t 18)), none, 2⟩] [])
 (.seq (.seq (.reg [⟨(some 19), (.mov (.t 7)), none, 2⟩, ⟨(some 20), (.eq false .ptr (.t 19) (.c .nilp)), none, 2⟩] [])
 (.cond (.t 20)
 (.seq (.reg [⟨(some 6), (.mov (.c (.bool false))), none, 2⟩] [])
 .ret)
 .skip))
 (.seq (.reg [⟨(some 21), (.mov (.t 0)), none, 2⟩, ⟨(some 22), (.call (.c (.fn 10 [])) [(.t 21), (.c (.int 11))]), none, 2⟩, ⟨(some 8), (.mov (.t 22)), none, 2⟩] [])
 (.seq (.seq (.reg [⟨(some 9), (.mov (.c (.int 0))), none, 2⟩] [])
 (.block 0 (.loop (.seq (.seq (.reg [⟨(some 23), (.mov (.t 9)), none, 2⟩, ⟨(some 24), (.mov (.t 8)), none, 2⟩, ⟨(some 25), (.bin .lss (.t 23) (.t 24)), none, 2⟩] [])
 (.cond (.t 25)
 .skip
 (.exit 0)))
 (.seq (.block 1 (.seq (.reg [⟨(some 28), (.mov (.t 0)), none, 2⟩, ⟨(some 29), (.mov (.t 9)), none, 2⟩, ⟨(some 30), (.bin .add (.t 28) (.t 29)), none, 2⟩, ⟨(some 31), (.mov (.t 1)), none, 2⟩, ⟨(some 32), (.call (.c (.fn 13 [])) [(.t 30), (.t 31)]), none, 2⟩, ⟨(some 10), (.alloc (.agg [(.int 0), (.str []), (.sl true 0 0 (.agg []) true), (.u32 0), (.u32 0), (.u32 0), (.u32 0), (.u32 0), (.u32 0), (.u32 0), (.u32 0), (.u32 0), (.u32 0), (.u32 0), (.u32 0), (.u32 0), (.u32 0), (.u32 0), (.u32 0), (.sl true 0 0 (.agg []) true), (.int 0), (.int 0), (.int 0)])), none, 2⟩, ⟨none, (.store (some 23) (.t 10) (.t 32)), none, 2⟩] [])
 (.seq (.reg [⟨(some 33), (.call (.c (.fn 20 [])) []), none, 2⟩, ⟨(some 34), (.mov (.t 9)), none, 2⟩, ⟨(some 35), (.bin .rem (.t 34) (.c (.int 10))), none, 2⟩, ⟨(some 36), (.iadS 1 (.t 33) (.t 35)), none, 2⟩, ⟨(some 37), (.load none (.t 36)), none, 2⟩, ⟨(some 38), (.fad 1 (.t 10)), none, 2⟩, ⟨none, (.store none (.t 38) (.t 37)), none, 2⟩] [])
 (.seq (.reg [⟨(some 39), (.mov (.t 7)), none, 2⟩, ⟨(some 40), (.load (some 23) (.t 10)), none, 2⟩, ⟨(some 41), (.call (.c (.fn 12 [])) [(.t 39), (.t 40)]), none, 2⟩, ⟨(some 11), (.mov (.t 41)), none, 2⟩] [])
 (.seq (.reg [⟨(some 42), (.mov (.t 11)), none, 2⟩, ⟨(some 43), (.eq false .sc (.t 42) (.c (.int 0))), none, 2⟩, ⟨(some 44), (.mov (.t 9)), none, 2⟩, ⟨(some 45), (.bin .lss (.t 44) (.c (.int 8))), none, 2⟩, ⟨(some 46), (.eq true .bool (.t 43) (.t 45)), none, 2⟩, ⟨(some 47), (.mov (.t 46)), none, 2⟩, ⟨(some 48), (.mov (.t 9)), (some (47, false)), 2⟩, ⟨(some 49), (.bin .geq (.t 48) (.c (.int 8))), (some (47, false)), 2⟩, ⟨(some 50), (.mov (.t 49)), (some (47, false)), 2⟩, ⟨(some 51), (.mov (.t 11)), (some (50, true)), 2⟩, ⟨(some 52), (.eq true .sc (.t 51) (.c (.int 7))), (some (50, true)), 2⟩, ⟨(some 53), (.pick (.t 50) (.t 52) (.c (.bool false))), (some (47, false)), 2⟩, ⟨(some 54), (.pick (.t 47) (.c (.bool true)) (.t 53)), none, 2⟩] [])
 (.cond (.t 54)
 (.seq (.reg [⟨(some 6), (.mov (.c (.bool false))), none, 2⟩] [])
 .ret)
 .skip))))))
 (.reg [⟨(some 26), (.mov (.t 9)), none, 2⟩, ⟨(some 27), (.bin .add (.t 26) (.c (.int 1))), none, 2⟩, ⟨(some 9), (.mov (.t 27)), none, 2⟩] []))))))
 (.seq (.seq (.reg [⟨(some 55), (.mov (.t 8)), none, 2⟩, ⟨(some 56), (.bin .lss (.t 55) (.c (.int 9))), none, 2⟩] [])
 (.cond (.t 56)
 (.seq (.reg [⟨(some 57), (.mov (.t 7)), none, 2⟩, ⟨(some 58), (.call (.c (.fn 21 [])) [(.t 57)]), none, 2⟩, ⟨(some 59), (.len false (.t 58)), none, 2⟩, ⟨(some 60), (.mov (.t 8)), none, 2⟩, ⟨(some 61), (.mn (.t 60) (.c (.int 8))), none, 2⟩, ⟨(some 62), (.eq false .sc (.t 59) (.t 61)), none, 2⟩, ⟨(some 6), (.mov (.t 62)), none, 2⟩] [])
 .ret)
 .skip))
 (.seq (.reg [⟨(some 63), (.mov (.t 0)), none, 2⟩, ⟨(some 64), (.mov (.t 1)), none, 2⟩, ⟨(some 65), (.call (.c (.fn 13 [])) [(.t 63), (.t 64)]), none, 2⟩, ⟨(some 12), (.alloc (.agg [(.int 0), (.str []), (.sl true 0 0 (.agg []) true), (.u32 0), (.u32 0), (.u32 0), (.u32 0), (.u32 0), (.u32 0), (.u32 0), (.u32 0), (.u32 0), (.u32 0), (.u32 0), (.u32 0), (.u32 0), (.u32 0), (.u32 0), (.u32 0), (.sl true 0 0 (.agg []) true), (.int 0), (.int 0), (.int 0)])), none, 2⟩, ⟨none, (.store (some 23) (.t 12) (.t 65)), none, 2⟩] [])
 (.seq (.reg [⟨(some 66), (.call (.c (.fn 20 [])) []), none, 2⟩, ⟨(some 67), (.mov (.t 2)), none, 2⟩, ⟨(some 68), (.call (.c (.fn 10 [])) [(.t 67), (.c (.int 8))]), none, 2⟩, ⟨(some 69), (.iadS 1 (.t 66) (.t 68)), none, 2⟩, ⟨(some 70), (.load none (.t 69)), none, 2⟩, ⟨(some 71), (.fad 1 (.t 12)), none, 2⟩, ⟨none, (.store none (.t 71) (.t 70)), none, 2⟩] [])
 (.seq (.seq (.reg [⟨(some 72), (.mov (.t 7)), none, 2⟩, ⟨(some 73), (.load (some 23) (.t 12)), none, 2⟩, ⟨(some 74), (.call (.c (.fn 12 [])) [(.t 72), (.t 73)]), none, 2⟩, ⟨(some 75), (.eq true .sc (.t 74) (.c (.int 0))), none, 2⟩, ⟨(some 76), (.mov (.t 75)), none, 2⟩, ⟨(some 77), (.mov (.t 7)), (some (76, false)), 2⟩, ⟨(some 78), (.fad 1 (.t 12)), (some (76, false)), 2⟩, ⟨(some 79), (.load none (.t 78)), (some (76, false)), 2⟩, ⟨(some 80), (.call (.c (.fn 22 [])) [(.t 77), (.t 79)]), (some (76, false)), 2⟩, ⟨(some 81), (.eq true .sc (.t 80) (.c (.int 0))), (some (76, false)), 2⟩, ⟨(some 82), (.pick (.t 76) (.c (.bool true)) (.t 81)), none, 2⟩, ⟨(some 83), (.mov (.t 82)), none, 2⟩, ⟨(some 84), (.mov (.t 7)), (some (83, false)), 2⟩, ⟨(some 85), (.fad 1 (.t 12)), (some (83, false)), 2⟩, ⟨(some 86), (.load none (.t 85)), (some (83, false)), 2⟩, ⟨(some 87), (.call (.c (.fn 22 [])) [(.t 84), (.t 86)]), (some (83, false)), 2⟩, ⟨(some 88), (.eq true .sc (.t 87) (.c (.int 3))), (some (83, false)), 2⟩, ⟨(some 89), (.pick (.t 83) (.c (.bool true)) (.t 88)), none, 2⟩, ⟨(some 90), (.mov (.t 89)), none, 2⟩, ⟨(some 91), (.mov (.t 7)), (some (90, false)), 2⟩, ⟨(some 92), (.call (.c (.fn 21 [])) [(.t 91)]), (some (90, false)), 2⟩, ⟨(some 93), (.len false (.t 92)), (some (90, false)), 2⟩, ⟨(some 94), (.eq true .sc (.t 93) (.c (.int 7))), (some (90, false)), 2⟩, ⟨(some 95), (.pick (.t 90) (.c (.bool true)) (.t 94)), none, 2⟩] [])
 (.cond (.t 95)
 (.seq (.reg [⟨(some 6), (.mov (.c (.bool false))), none, 2⟩] [])
 .ret)
 .skip))
 (.seq (.reg [⟨(some 96), (.fad 1 (.t 12)), none, 2⟩, ⟨none, (.store none (.t 96) (.c (.str [110, 101, 119]))), none, 2⟩] [])
 (.seq (.reg [⟨(some 97), (.mov (.t 7)), none, 2⟩, ⟨(some 98), (.load (some 23) (.t 12)), none, 2⟩, ⟨(some 99), (.call (.c (.fn 12 [])) [(.t 97), (.t 98)]), none, 2⟩, ⟨(some 100), (.eq false .sc (.t 99) (.c (.int 0))), none, 2⟩, ⟨(some 101), (.mov (.t 100)), none, 2⟩, ⟨(some 102), (.mov (.t 7)), (some (101, true)), 2⟩, ⟨(some 103), (.call (.c (.fn 21 [])) [(.t 102)]), (some (101, true)), 2⟩, ⟨(some 104), (.len false (.t 103)), (some (101, true)), 2⟩, ⟨(some 105), (.eq false .sc (.t 104) (.c (.int 8))), (some (101, true)), 2⟩, ⟨(some 106), (.pick (.t 101) (.t 105) (.c (.bool false))), none, 2⟩, ⟨(some 6), (.mov (.t 106)), none, 2⟩] [])
 .ret)))))))))))))
theorem o5 : FnOK Try.prog 5 N5 res5 c5 := ⟨_, _, Try.f5.results.toList, [], pures, Try.func5, show _ = some (Try.f5.body.getD .skip) by kernel_rfl, (Array.toArray_toList).symm, by kernel_rfl, by kernel_rfl, by kernel_rfl, by kernel_rfl, follows, callFunc_enter Try.func5 (by kernel_rfl) (by kernel_rfl)⟩
open Go.Proofs
set_option maxRecDepth 100000

def rF (n : Int) (b : By) (i : Nat) : Rec := { recV (w64 (n + i)) b with name := lstF nmL i }
theorem named_good {r : Rec} (h : r.good) (nm : TX) (hn : nameOK nm = true) : ({ r with name := nm } : Rec).good := by
  obtain ⟨h1, h2, h3⟩ := h
  refine ⟨?_, h2, h3⟩
  unfold Rec.ok at h1 ⊢
  simp only [Bool.and_eq_true] at h1 ⊢
  obtain ⟨a1, a2, a3, a4⟩ := h1
  exact ⟨a1, a2, hn, a4⟩
theorem rF_good (n : Int) (b : By) (i : Nat) (hi : i < 10) : (rF n b i).good := named_good (recV_good _ b) _ (nmL_name i hi)
structure Ful (n : Int) (b : By) (i : Nat) (s : Vt) : Prop where
  fine : s.fine
  dead : s.dead = false
  left : s.left = -1
  acc : Acc s (firstA (rF n b) (min i 8)) (1 + i)
theorem Ful.put {n : Int} {b : By} {i : Nat} {s : Vt} (h : Ful n b i s) (hi : i < 10) : ∃ e s', s.put (rF n b i) = (e, s') ∧ Ful n b (i + 1) s' ∧ ((e = 0 ∧ i < 8) ∨ (e = 7 ∧ 8 ≤ i)) := by
  have hg := rF_good n b i hi
  have hlen := out_len hg.ok
  have hf := put_fine (r := rF n b i) h.fine (by omega)
  by_cases h8 : i < 8
  · have ha := h.acc
    rw [Nat.min_eq_left (by omega)] at ha
    obtain ⟨p1, p2, p3, p4, p5⟩ := ha.put hg (by omega) h.dead (.inl (by rw [h.left]; omega)) (firstA_slot (f := rF n b) (by omega) (fun _ _ => rfl))
    rw [firstA_upd] at p2
    exact ⟨_, _, Prod.eta _ |>.symm, ⟨hf, p4, by rw [p5, leftBy, h.left, if_pos (by omega)], by rw [Nat.min_eq_left (by omega)]; exact p2.mono (by omega)⟩, .inl ⟨p1, h8⟩⟩
  · have ha := h.acc
    rw [Nat.min_eq_right (by omega)] at ha
    have e := ha.put_full hg h.dead (by
      unfold slotA
      rw [show (rF n b i).name = lstF nmL i from rfl, firstA_named (by omega) (fun _ _ => rfl) hi, if_neg h8, if_pos (by omega), firstA_none (by omega)]
      simp)
    exact ⟨_, _, e, ⟨h.fine, h.dead, h.left, by rw [Nat.min_eq_right (by omega)]; exact ha.mono (by omega)⟩, .inr ⟨rfl, by omega⟩⟩
def rO (n : Int) (b : By) (o : Nat) : Rec := { recV n b with name := lstF nmL o }
def rNew (n : Int) (b : By) : Rec := { recV n b with name := [110, 101, 119] }
theorem full_slots (n m : Int) (b : By) : ∀ o, o < 8 → slotA (firstA (rF n b) 8) (lstF nmL o) = o ∧ firstI (named (updA (firstA (rF n b) 8) o (some (rO m b o))) (lstF nmL o)) 8 = o
    ∧ firstI (named (updA (updA (firstA (rF n b) 8) o (some (rO m b o))) o none) (lstF nmL o)) 8 = -1 ∧ slotA (updA (updA (firstA (rF n b) 8) o (some (rO m b o))) o none) [110, 101, 119] = o
    ∧ (nmsA (updA (updA (firstA (rF n b) 8) o (some (rO m b o))) o none) 8).length = 7 ∧ (nmsA (updA (updA (updA (firstA (rF n b) 8) o (some (rO m b o))) o none) o (some (rNew m b))) 8).length = 8
  | 0, _ | 1, _ | 2, _ | 3, _ | 4, _ | 5, _ | 6, _ | 7, _ => ⟨rfl, rfl, rfl, rfl, rfl, rfl⟩
  | o + 8, h => absurd h (by omega)
def L5 (n : Int) (b : By) (o : Int) : LI where
  X := Nat × Vt
  x0 := (0, vtN)
  pre x := (x.1 : Int) ≤ within1 n 11 ∧ Ful n b x.1 x.2
  inv x := ([(0, .int n), (1, b.A), (2, .int o), (7, .ptr 1 0 0), (8, .int (within1 n 11)), (9, .int x.1)], [x.2.o2, x.2.o1 0])
  mu x := 11 - x.1
  ren := true
set_option maxHeartbeats 4000000 in
theorem fn5 (n : Int) (b : By) (o : Int) : ACalls Try.prog 5 [.int n, b.A, .int o] [] (fun a h => a = .bool true ∧ h = []) := by
  refine o5.runS [(8, e8), (9, e9), (10, e10), (12, e12), (13, e13), (20, e20), (21, e21), (22, e22)] keep5 0 (fun _ _ _ => L5 n b o) (own := false) (kn := 0)
    (.cons ok8 o8.enter (.cons ok9 o9.enter (.cons ok10 o10.enter (.cons ok12 o12.enter (.cons ok13 o13.enter (.cons ok20 o20.enter (.cons ok21 o21.enter (.cons ok22 o22.enter .nil)))))))) (Nat.le_of_ble_eq_true rfl) rfl (Nat.le_refl _) (fun Γ hsp hkp hk0 hinv κ hκ => ?_)
  dsimp only [keep5] at hkp
  (repeat (first | ((first | refine RUN.sreg hsp hkp rfl (fun κ__ h__ => ?_) | refine RUN.reg hsp hkp rfl (fun κ__ h__ => ?_)); dsimp only [e8, e9, e10, e12, e13, e20, e21, e22, evV, vtD, rwD, recD, intlD, allB, not, evL, consG, consO, valG, valO, nilG, nilO, noMore, vtG, vtO, id, rhoC, hsetL, happ, happO, nodupC, inC, appN, Vt.o1, Vt.o2, vR, toCe_vf, By.eta, Ce.eta, Vt.eta, Rec.eta, Num.eta, Rec.C, sfn, txA, go_sem, Nat.succ, Int.reduceToNat, Nat.reduceAdd, Nat.reduceMul, Nat.reduceSub, Int.reduceLT, Int.reduceLE, Int.reduceNeg, UInt64.reduceToNat, UInt32.reduceToNat, UInt8.reduceToNat]; subst h__) | refine RUN.block rfl ?_ | refine RUN.skip rfl ?_ | refine RUN.ret rfl ?_ | (refine RUN.exit rfl ?_; dsimp only [xfind, xfB, Nat.beq]) | (refine RUN.seq rfl (fun κ__ h__ => ?_); subst h__) | (refine RUN.cond rfl (p := true) rfl (fun _ => ?_) (fun h__ => by cases h__)) | (refine RUN.cond rfl (p := false) rfl (fun h__ => by cases h__) (fun _ => ?_)) | refine ⟨by first | trivial | omega | (and_intros <;> first | trivial | rfl | omega) | rfl, ?_⟩))
  refine RUN.cond rfl rfl (fun hc => ?_) (fun hc => ?_)
  · (repeat (first | ((first | refine RUN.sreg hsp hkp rfl (fun κ__ h__ => ?_) | refine RUN.reg hsp hkp rfl (fun κ__ h__ => ?_)); dsimp only [e8, e9, e10, e12, e13, e20, e21, e22, evV, vtD, rwD, recD, intlD, allB, not, evL, consG, consO, valG, valO, nilG, nilO, noMore, vtG, vtO, id, rhoC, hsetL, happ, happO, nodupC, inC, appN, Vt.o1, Vt.o2, vR, toCe_vf, By.eta, Ce.eta, Vt.eta, Rec.eta, Num.eta, Rec.C, sfn, txA, go_sem, Nat.succ, Int.reduceToNat, Nat.reduceAdd, Nat.reduceMul, Nat.reduceSub, Int.reduceLT, Int.reduceLE, Int.reduceNeg, UInt64.reduceToNat, UInt32.reduceToNat, UInt8.reduceToNat]; subst h__) | refine RUN.block rfl ?_ | refine RUN.skip rfl ?_ | refine RUN.ret rfl ?_ | (refine RUN.exit rfl ?_; dsimp only [xfind, xfB, Nat.beq]) | (refine RUN.seq rfl (fun κ__ h__ => ?_); subst h__) | (refine RUN.cond rfl (p := true) rfl (fun _ => ?_) (fun h__ => by cases h__)) | (refine RUN.cond rfl (p := false) rfl (fun h__ => by cases h__) (fun _ => ?_)) | refine ⟨by first | trivial | omega | (and_intros <;> first | trivial | rfl | omega) | rfl, ?_⟩))
    rw [hκ]; exact leaf_true rfl
  have hb : b.l.length ≤ 60 := by have := of_decide_eq_false hc; omega
  have hk := within1_in (a := n) (b := 11) (by omega)
  have ho := within1_in (a := o) (b := 8) (by omega)
  (repeat (first | ((first | refine RUN.sreg hsp hkp rfl (fun κ__ h__ => ?_) | refine RUN.reg hsp hkp rfl (fun κ__ h__ => ?_)); dsimp only [e8, e9, e10, e12, e13, e20, e21, e22, evV, vtD, rwD, recD, intlD, allB, not, evL, consG, consO, valG, valO, nilG, nilO, noMore, vtG, vtO, id, rhoC, hsetL, happ, happO, nodupC, inC, appN, Vt.o1, Vt.o2, vR, toCe_vf, By.eta, Ce.eta, Vt.eta, Rec.eta, Num.eta, Rec.C, sfn, txA, go_sem, Nat.succ, Int.reduceToNat, Nat.reduceAdd, Nat.reduceMul, Nat.reduceSub, Int.reduceLT, Int.reduceLE, Int.reduceNeg, UInt64.reduceToNat, UInt32.reduceToNat, UInt8.reduceToNat]; subst h__) | refine RUN.block rfl ?_ | refine RUN.skip rfl ?_ | refine RUN.ret rfl ?_ | (refine RUN.exit rfl ?_; dsimp only [xfind, xfB, Nat.beq]) | (refine RUN.seq rfl (fun κ__ h__ => ?_); subst h__) | (refine RUN.cond rfl (p := true) rfl (fun _ => ?_) (fun h__ => by cases h__)) | (refine RUN.cond rfl (p := false) rfl (fun h__ => by cases h__) (fun _ => ?_)) | refine ⟨by first | trivial | omega | (and_intros <;> first | trivial | rfl | omega) | rfl, ?_⟩))
  refine RUN.loop hk0 hinv rfl rfl (L := L5 n b o) rfl rfl rfl ?_ ?_ (fun x hx κ1 h1 => ?_)
  · dsimp only [L5, fits, Vt.o1, Vt.o2, vR, IntL.A]
    refine ⟨[some 0, some 1], rfl, ?_, by first | rfl | trivial, ?_⟩
    · (try dsimp only [nodupN, inN, nget, sameS, sameH, sameO, SameL, look, lookB, hget, hlen, emptyC, Nat.beq, Nat.ble]) <;> and_intros <;> first | trivial | rfl | exact .inl rfl | exact .refl rfl | exact .inl ⟨rfl, rfl⟩ | exact .ms rfl rfl rfl rfl rfl | exact .ptr rfl rfl rfl rfl rfl | exact .any | exact .nil | exact .nilm | exact .bf ⟨.ptr rfl rfl rfl rfl rfl, trivial⟩ | exact .fn ⟨.ptr rfl rfl rfl rfl rfl, trivial⟩ | exact .inr ⟨rfl, rfl⟩ | exact SameC.agg ⟨.refl rfl, .tell (byD_tell _ ⟨true, []⟩ rfl) rfl, trivial⟩ | exact .tell (tellC_rw0 _ _) rfl | exact .tell (tellC_snoc rfl) rfl | exact SameC.agg (by (try dsimp only [SameL]); and_intros <;> first | trivial | exact .refl rfl | exact .ms rfl rfl rfl rfl rfl | exact .ptr rfl rfl rfl rfl rfl | exact .nil | exact .nilm | exact .any)
    · (try dsimp only [nodupN, inN, nget, sameS, sameH, sameO, SameL, look, lookB, hget, hlen, emptyC, Nat.beq, Nat.ble]) <;> and_intros <;> first | trivial | rfl | exact .inl rfl | exact .refl rfl | exact .inl ⟨rfl, rfl⟩ | exact .ms rfl rfl rfl rfl rfl | exact .ptr rfl rfl rfl rfl rfl | exact .any | exact .nil | exact .nilm | exact .bf ⟨.ptr rfl rfl rfl rfl rfl, trivial⟩ | exact .fn ⟨.ptr rfl rfl rfl rfl rfl, trivial⟩ | exact .inr ⟨rfl, rfl⟩ | exact SameC.agg ⟨.refl rfl, .tell (byD_tell _ ⟨true, []⟩ rfl) rfl, trivial⟩ | exact .tell (tellC_rw0 _ _) rfl | exact .tell (tellC_snoc rfl) rfl | exact SameC.agg (by (try dsimp only [SameL]); and_intros <;> first | trivial | exact .refl rfl | exact .ms rfl rfl rfl rfl rfl | exact .ptr rfl rfl rfl rfl rfl | exact .nil | exact .nilm | exact .any)
  · refine ⟨hk.1, vtN_fine, vtN_alive.1, vtN_alive.2, ?_⟩
    have : firstA (rF n b) (min 0 8) = fun _ => none := by funext k; unfold firstA; rw [if_neg (by omega)]
    dsimp only [L5]
    rw [this]; exact vtN_acc
  obtain ⟨i, s⟩ := x
  obtain ⟨(hi : (i : Int) ≤ within1 n 11), (hS : Ful n b i s)⟩ := hx
  have hl := hS.left
  dsimp only [L5, Vt.o1, Vt.o2, vR]
  (repeat (first | ((first | refine RUN.sreg hsp hkp rfl (fun κ__ h__ => ?_) | refine RUN.reg hsp hkp rfl (fun κ__ h__ => ?_)); dsimp only [e8, e9, e10, e12, e13, e20, e21, e22, evV, vtD, rwD, recD, intlD, allB, not, evL, consG, consO, valG, valO, nilG, nilO, noMore, vtG, vtO, id, rhoC, hsetL, happ, happO, nodupC, inC, appN, Vt.o1, Vt.o2, vR, toCe_vf, By.eta, Ce.eta, Vt.eta, Rec.eta, Num.eta, Rec.C, sfn, txA, go_sem, Nat.succ, Int.reduceToNat, Nat.reduceAdd, Nat.reduceMul, Nat.reduceSub, Int.reduceLT, Int.reduceLE, Int.reduceNeg, UInt64.reduceToNat, UInt32.reduceToNat, UInt8.reduceToNat]; subst h__) | refine RUN.block rfl ?_ | refine RUN.skip rfl ?_ | refine RUN.ret rfl ?_ | (refine RUN.exit rfl ?_; dsimp only [xfind, xfB, Nat.beq]) | (refine RUN.seq rfl (fun κ__ h__ => ?_); subst h__) | (refine RUN.cond rfl (p := true) rfl (fun _ => ?_) (fun h__ => by cases h__)) | (refine RUN.cond rfl (p := false) rfl (fun h__ => by cases h__) (fun _ => ?_)) | refine ⟨by first | trivial | omega | (and_intros <;> first | trivial | rfl | omega) | rfl, ?_⟩))
  refine RUN.cond rfl rfl (fun h2 => ?_) (fun h2 => ?_)
  · have h2 := of_decide_eq_true h2
    obtain ⟨e, s', hp, hS', hw⟩ := hS.put (by omega)
    have hlen := out_len (rF_good n b i (by omega)).ok
    have w1 : w64 ((i : Int) + 1) = ((i + 1 : Nat) : Int) := by rw [w64_in (by omega)]; omega
    have w2 : (i : Int).tmod 10 = i := Int.tmod_eq_of_lt (by omega) (by omega)
    (repeat (first | ((first | refine RUN.sreg hsp hkp rfl (fun κ__ h__ => ?_) | refine RUN.reg hsp hkp rfl (fun κ__ h__ => ?_)); dsimp only [e8, e9, e10, e12, e13, e20, e21, e22, evV, vtD, rwD, recD, intlD, allB, not, evL, consG, consO, valG, valO, nilG, nilO, noMore, vtG, vtO, id, rhoC, hsetL, happ, happO, nodupC, inC, appN, Vt.o1, Vt.o2, vR, toCe_vf, By.eta, Ce.eta, Vt.eta, Rec.eta, Num.eta, Rec.C, sfn, txA, go_sem, Nat.succ, Int.reduceToNat, Nat.reduceAdd, Nat.reduceMul, Nat.reduceSub, Int.reduceLT, Int.reduceLE, Int.reduceNeg, UInt64.reduceToNat, UInt32.reduceToNat, UInt8.reduceToNat]; subst h__) | refine RUN.block rfl ?_ | refine RUN.skip rfl ?_ | refine RUN.ret rfl ?_ | (refine RUN.exit rfl ?_; dsimp only [xfind, xfB, Nat.beq]) | (refine RUN.seq rfl (fun κ__ h__ => ?_); subst h__) | (refine RUN.cond rfl (p := true) rfl (fun _ => ?_) (fun h__ => by cases h__)) | (refine RUN.cond rfl (p := false) rfl (fun h__ => by cases h__) (fun _ => ?_)) | refine ⟨by first | trivial | omega | (and_intros <;> first | trivial | rfl | omega) | rfl, ?_⟩))
    rw [w2]
    simp only [Int.toNat_natCast]
    rw [show s.put (Rec.mk _ _ _ _ _ _ _ _ _) = (e, s') from hp]
    refine ⟨⟨by first | rfl | trivial, by omega, Nat.le_trans hlen (by decide)⟩, ?_⟩
    (repeat (first | ((first | refine RUN.sreg hsp hkp rfl (fun κ__ h__ => ?_) | refine RUN.reg hsp hkp rfl (fun κ__ h__ => ?_)); dsimp only [e8, e9, e10, e12, e13, e20, e21, e22, evV, vtD, rwD, recD, intlD, allB, not, evL, consG, consO, valG, valO, nilG, nilO, noMore, vtG, vtO, id, rhoC, hsetL, happ, happO, nodupC, inC, appN, Vt.o1, Vt.o2, vR, toCe_vf, By.eta, Ce.eta, Vt.eta, Rec.eta, Num.eta, Rec.C, sfn, txA, go_sem, Nat.succ, Int.reduceToNat, Nat.reduceAdd, Nat.reduceMul, Nat.reduceSub, Int.reduceLT, Int.reduceLE, Int.reduceNeg, UInt64.reduceToNat, UInt32.reduceToNat, UInt8.reduceToNat]; subst h__) | refine RUN.block rfl ?_ | refine RUN.skip rfl ?_ | refine RUN.ret rfl ?_ | (refine RUN.exit rfl ?_; dsimp only [xfind, xfB, Nat.beq]) | (refine RUN.seq rfl (fun κ__ h__ => ?_); subst h__) | (refine RUN.cond rfl (p := true) rfl (fun _ => ?_) (fun h__ => by cases h__)) | (refine RUN.cond rfl (p := false) rfl (fun h__ => by cases h__) (fun _ => ?_)) | refine ⟨by first | trivial | omega | (and_intros <;> first | trivial | rfl | omega) | rfl, ?_⟩))
    have hd := hS'.dead
    rcases hw with ⟨rfl, hle⟩ | ⟨rfl, hle⟩
    · rw [decide_eq_true (show (i : Int) < 8 by omega), decide_eq_false (show ¬ 8 ≤ (i : Int) by omega)]
      refine fork_intro (fun h => absurd h (by decide)) (fun _ => fork_intro (fun h => absurd h (by decide)) (fun _ => ?_))
      (repeat (first | ((first | refine RUN.sreg hsp hkp rfl (fun κ__ h__ => ?_) | refine RUN.reg hsp hkp rfl (fun κ__ h__ => ?_)); dsimp only [e8, e9, e10, e12, e13, e20, e21, e22, evV, vtD, rwD, recD, intlD, allB, not, evL, consG, consO, valG, valO, nilG, nilO, noMore, vtG, vtO, id, rhoC, hsetL, happ, happO, nodupC, inC, appN, Vt.o1, Vt.o2, vR, toCe_vf, By.eta, Ce.eta, Vt.eta, Rec.eta, Num.eta, Rec.C, sfn, txA, go_sem, Nat.succ, Int.reduceToNat, Nat.reduceAdd, Nat.reduceMul, Nat.reduceSub, Int.reduceLT, Int.reduceLE, Int.reduceNeg, UInt64.reduceToNat, UInt32.reduceToNat, UInt8.reduceToNat]; subst h__) | refine RUN.block rfl ?_ | refine RUN.skip rfl ?_ | refine RUN.ret rfl ?_ | (refine RUN.exit rfl ?_; dsimp only [xfind, xfB, Nat.beq]) | (refine RUN.seq rfl (fun κ__ h__ => ?_); subst h__) | (refine RUN.cond rfl (p := true) rfl (fun _ => ?_) (fun h__ => by cases h__)) | (refine RUN.cond rfl (p := false) rfl (fun h__ => by cases h__) (fun _ => ?_)) | refine ⟨by first | trivial | omega | (and_intros <;> first | trivial | rfl | omega) | rfl, ?_⟩))
      rw [w1]
      subst h1
      dsimp only [loopK, fits, L5, Vt.o1, Vt.o2, vR]
      refine ⟨(i + 1, s'), ⟨by dsimp only; omega, hS'⟩, by dsimp only; omega, [some 0, some 1], rfl, ?_, by first | rfl | trivial, ?_⟩
      · (try dsimp only [nodupN, inN, nget, sameS, sameH, sameO, SameL, look, lookB, hget, hlen, emptyC, Nat.beq, Nat.ble]) <;> and_intros <;> first | trivial | rfl | exact .inl rfl | exact .refl rfl | exact .inl ⟨rfl, rfl⟩ | exact .ms rfl rfl rfl rfl rfl | exact .ptr rfl rfl rfl rfl rfl | exact .any | exact .nil | exact .nilm | exact .bf ⟨.ptr rfl rfl rfl rfl rfl, trivial⟩ | exact .fn ⟨.ptr rfl rfl rfl rfl rfl, trivial⟩ | exact .inr ⟨rfl, rfl⟩ | exact SameC.agg ⟨.refl rfl, .tell (byD_tell _ ⟨true, []⟩ rfl) rfl, trivial⟩ | exact .tell (tellC_rw0 _ _) rfl | exact .tell (tellC_snoc rfl) rfl | exact SameC.agg (by (try dsimp only [SameL]); and_intros <;> first | trivial | exact .refl rfl | exact .ms rfl rfl rfl rfl rfl | exact .ptr rfl rfl rfl rfl rfl | exact .nil | exact .nilm | exact .any)
      · (try dsimp only [nodupN, inN, nget, sameS, sameH, sameO, SameL, look, lookB, hget, hlen, emptyC, Nat.beq, Nat.ble]) <;> and_intros <;> first | trivial | rfl | exact .inl rfl | exact .refl rfl | exact .inl ⟨rfl, rfl⟩ | exact .ms rfl rfl rfl rfl rfl | exact .ptr rfl rfl rfl rfl rfl | exact .any | exact .nil | exact .nilm | exact .bf ⟨.ptr rfl rfl rfl rfl rfl, trivial⟩ | exact .fn ⟨.ptr rfl rfl rfl rfl rfl, trivial⟩ | exact .inr ⟨rfl, rfl⟩ | exact SameC.agg ⟨.refl rfl, .tell (byD_tell _ ⟨true, []⟩ rfl) rfl, trivial⟩ | exact .tell (tellC_rw0 _ _) rfl | exact .tell (tellC_snoc rfl) rfl | exact SameC.agg (by (try dsimp only [SameL]); and_intros <;> first | trivial | exact .refl rfl | exact .ms rfl rfl rfl rfl rfl | exact .ptr rfl rfl rfl rfl rfl | exact .nil | exact .nilm | exact .any)
    · rw [decide_eq_false (show ¬ (i : Int) < 8 by omega), decide_eq_true (show 8 ≤ (i : Int) by omega)]
      refine fork_intro (fun h => absurd h (by decide)) (fun _ => fork_intro (fun _ => ?_) (fun h => absurd h (by decide)))
      (repeat (first | ((first | refine RUN.sreg hsp hkp rfl (fun κ__ h__ => ?_) | refine RUN.reg hsp hkp rfl (fun κ__ h__ => ?_)); dsimp only [e8, e9, e10, e12, e13, e20, e21, e22, evV, vtD, rwD, recD, intlD, allB, not, evL, consG, consO, valG, valO, nilG, nilO, noMore, vtG, vtO, id, rhoC, hsetL, happ, happO, nodupC, inC, appN, Vt.o1, Vt.o2, vR, toCe_vf, By.eta, Ce.eta, Vt.eta, Rec.eta, Num.eta, Rec.C, sfn, txA, go_sem, Nat.succ, Int.reduceToNat, Nat.reduceAdd, Nat.reduceMul, Nat.reduceSub, Int.reduceLT, Int.reduceLE, Int.reduceNeg, UInt64.reduceToNat, UInt32.reduceToNat, UInt8.reduceToNat]; subst h__) | refine RUN.block rfl ?_ | refine RUN.skip rfl ?_ | refine RUN.ret rfl ?_ | (refine RUN.exit rfl ?_; dsimp only [xfind, xfB, Nat.beq]) | (refine RUN.seq rfl (fun κ__ h__ => ?_); subst h__) | (refine RUN.cond rfl (p := true) rfl (fun _ => ?_) (fun h__ => by cases h__)) | (refine RUN.cond rfl (p := false) rfl (fun h__ => by cases h__) (fun _ => ?_)) | refine ⟨by first | trivial | omega | (and_intros <;> first | trivial | rfl | omega) | rfl, ?_⟩))
      rw [w1]
      subst h1
      dsimp only [loopK, fits, L5, Vt.o1, Vt.o2, vR]
      refine ⟨(i + 1, s'), ⟨by dsimp only; omega, hS'⟩, by dsimp only; omega, [some 0, some 1], rfl, ?_, by first | rfl | trivial, ?_⟩
      · (try dsimp only [nodupN, inN, nget, sameS, sameH, sameO, SameL, look, lookB, hget, hlen, emptyC, Nat.beq, Nat.ble]) <;> and_intros <;> first | trivial | rfl | exact .inl rfl | exact .refl rfl | exact .inl ⟨rfl, rfl⟩ | exact .ms rfl rfl rfl rfl rfl | exact .ptr rfl rfl rfl rfl rfl | exact .any | exact .nil | exact .nilm | exact .bf ⟨.ptr rfl rfl rfl rfl rfl, trivial⟩ | exact .fn ⟨.ptr rfl rfl rfl rfl rfl, trivial⟩ | exact .inr ⟨rfl, rfl⟩ | exact SameC.agg ⟨.refl rfl, .tell (byD_tell _ ⟨true, []⟩ rfl) rfl, trivial⟩ | exact .tell (tellC_rw0 _ _) rfl | exact .tell (tellC_snoc rfl) rfl | exact SameC.agg (by (try dsimp only [SameL]); and_intros <;> first | trivial | exact .refl rfl | exact .ms rfl rfl rfl rfl rfl | exact .ptr rfl rfl rfl rfl rfl | exact .nil | exact .nilm | exact .any)
      · (try dsimp only [nodupN, inN, nget, sameS, sameH, sameO, SameL, look, lookB, hget, hlen, emptyC, Nat.beq, Nat.ble]) <;> and_intros <;> first | trivial | rfl | exact .inl rfl | exact .refl rfl | exact .inl ⟨rfl, rfl⟩ | exact .ms rfl rfl rfl rfl rfl | exact .ptr rfl rfl rfl rfl rfl | exact .any | exact .nil | exact .nilm | exact .bf ⟨.ptr rfl rfl rfl rfl rfl, trivial⟩ | exact .fn ⟨.ptr rfl rfl rfl rfl rfl, trivial⟩ | exact .inr ⟨rfl, rfl⟩ | exact SameC.agg ⟨.refl rfl, .tell (byD_tell _ ⟨true, []⟩ rfl) rfl, trivial⟩ | exact .tell (tellC_rw0 _ _) rfl | exact .tell (tellC_snoc rfl) rfl | exact SameC.agg (by (try dsimp only [SameL]); and_intros <;> first | trivial | exact .refl rfl | exact .ms rfl rfl rfl rfl rfl | exact .ptr rfl rfl rfl rfl rfl | exact .nil | exact .nilm | exact .any)
  · have h2 := of_decide_eq_false h2
    have hik : (i : Int) = within1 n 11 := by omega
    have ha := hS.acc
    (repeat (first | ((first | refine RUN.sreg hsp hkp rfl (fun κ__ h__ => ?_) | refine RUN.reg hsp hkp rfl (fun κ__ h__ => ?_)); dsimp only [e8, e9, e10, e12, e13, e20, e21, e22, evV, vtD, rwD, recD, intlD, allB, not, evL, consG, consO, valG, valO, nilG, nilO, noMore, vtG, vtO, id, rhoC, hsetL, happ, happO, nodupC, inC, appN, Vt.o1, Vt.o2, vR, toCe_vf, By.eta, Ce.eta, Vt.eta, Rec.eta, Num.eta, Rec.C, sfn, txA, go_sem, Nat.succ, Int.reduceToNat, Nat.reduceAdd, Nat.reduceMul, Nat.reduceSub, Int.reduceLT, Int.reduceLE, Int.reduceNeg, UInt64.reduceToNat, UInt32.reduceToNat, UInt8.reduceToNat]; subst h__) | refine RUN.block rfl ?_ | refine RUN.skip rfl ?_ | refine RUN.ret rfl ?_ | (refine RUN.exit rfl ?_; dsimp only [xfind, xfB, Nat.beq]) | (refine RUN.seq rfl (fun κ__ h__ => ?_); subst h__) | (refine RUN.cond rfl (p := true) rfl (fun _ => ?_) (fun h__ => by cases h__)) | (refine RUN.cond rfl (p := false) rfl (fun h__ => by cases h__) (fun _ => ?_)) | refine ⟨by first | trivial | omega | (and_intros <;> first | trivial | rfl | omega) | rfl, ?_⟩))
    refine RUN.cond rfl rfl (fun h3 => ?_) (fun h3 => ?_)
    · have h3 := of_decide_eq_true h3
      have hn := names_len ha
      rw [firstA_len] at hn
      (repeat (first | ((first | refine RUN.sreg hsp hkp rfl (fun κ__ h__ => ?_) | refine RUN.reg hsp hkp rfl (fun κ__ h__ => ?_)); dsimp only [e8, e9, e10, e12, e13, e20, e21, e22, evV, vtD, rwD, recD, intlD, allB, not, evL, consG, consO, valG, valO, nilG, nilO, noMore, vtG, vtO, id, rhoC, hsetL, happ, happO, nodupC, inC, appN, Vt.o1, Vt.o2, vR, toCe_vf, By.eta, Ce.eta, Vt.eta, Rec.eta, Num.eta, Rec.C, sfn, txA, go_sem, Nat.succ, Int.reduceToNat, Nat.reduceAdd, Nat.reduceMul, Nat.reduceSub, Int.reduceLT, Int.reduceLE, Int.reduceNeg, UInt64.reduceToNat, UInt32.reduceToNat, UInt8.reduceToNat]; subst h__) | refine RUN.block rfl ?_ | refine RUN.skip rfl ?_ | refine RUN.ret rfl ?_ | (refine RUN.exit rfl ?_; dsimp only [xfind, xfB, Nat.beq]) | (refine RUN.seq rfl (fun κ__ h__ => ?_); subst h__) | (refine RUN.cond rfl (p := true) rfl (fun _ => ?_) (fun h__ => by cases h__)) | (refine RUN.cond rfl (p := false) rfl (fun h__ => by cases h__) (fun _ => ?_)) | refine ⟨by first | trivial | omega | (and_intros <;> first | trivial | rfl | omega) | rfl, ?_⟩))
      generalize s.names = nn at hn ⊢
      obtain ⟨m, g⟩ := nn
      dsimp only at hn
      subst hn
      rw [hκ]
      have e : ((min (min i 8) 8 : Nat) : Int) = if 8 < within1 n 11 then 8 else within1 n 11 := by rw [← hik]; split <;> omega
      exact leaf_true (by show AV.bool (((min (min i 8) 8 : Nat) : Int) == if 8 < within1 n 11 then 8 else within1 n 11) = _; rw [e, beq_self_eq_true])
    · have h3 := of_decide_eq_false h3
      have h8 : min i 8 = 8 := by omega
      rw [h8] at ha
      obtain ⟨q, hq⟩ : ∃ q : Nat, (within1 o 8).toNat = q := ⟨_, rfl⟩
      obtain ⟨f1, f2, f3, f4, f5, f6⟩ := full_slots n n b q (by omega)
      have g1 : (rO n b q).good := named_good (recV_good n b) _ (nmL_name q (by omega))
      have g2 : (rNew n b).good := named_good (recV_good n b) _ (by decide)
      have l1 := out_len g1.ok
      have l2 := out_len g2.ok
      obtain ⟨p1, p2, _, p4, p5⟩ := ha.put g1 (by omega) hS.dead (.inl (by omega)) f1
      rw [leftBy, if_pos (by omega), hl] at p5
      obtain ⟨⟨e1, s1⟩, hp⟩ : ∃ x, s.put (rO n b q) = x := ⟨_, rfl⟩
      rw [hp] at p1 p2 p4 p5
      dsimp only at p1 p2 p4 p5
      subst p1
      obtain ⟨u1, u2, _, u4, u5⟩ := p2.gone (nm := lstF nmL q) (by omega) p4 (.inl (by omega)) f2
      rw [leftBy, if_pos (by omega), p5] at u5
      obtain ⟨⟨e2, s2⟩, hu⟩ : ∃ x, s1.gone (lstF nmL q) = x := ⟨_, rfl⟩
      rw [hu] at u1 u2 u4 u5
      dsimp only at u1 u2 u4 u5
      subst u1
      have w1 := u2.gone_none (nm := lstF nmL q) u4 (by rw [f3]; omega)
      have w2 := names_len u2
      rw [f5] at w2
      obtain ⟨v1, v2, _, v4, v5⟩ := u2.put g2 (by omega) u4 (.inl (by omega)) f4
      obtain ⟨⟨e3, s3⟩, hv⟩ : ∃ x, s2.put (rNew n b) = x := ⟨_, rfl⟩
      rw [hv] at v1 v2 v4 v5
      dsimp only at v1 v2 v4 v5
      subst v1
      have v6 := names_len v2
      rw [f6] at v6
      (repeat (first | ((first | refine RUN.sreg hsp hkp rfl (fun κ__ h__ => ?_) | refine RUN.reg hsp hkp rfl (fun κ__ h__ => ?_)); dsimp only [e8, e9, e10, e12, e13, e20, e21, e22, evV, vtD, rwD, recD, intlD, allB, not, evL, consG, consO, valG, valO, nilG, nilO, noMore, vtG, vtO, id, rhoC, hsetL, happ, happO, nodupC, inC, appN, Vt.o1, Vt.o2, vR, toCe_vf, By.eta, Ce.eta, Vt.eta, Rec.eta, Num.eta, Rec.C, sfn, txA, go_sem, Nat.succ, Int.reduceToNat, Nat.reduceAdd, Nat.reduceMul, Nat.reduceSub, Int.reduceLT, Int.reduceLE, Int.reduceNeg, UInt64.reduceToNat, UInt32.reduceToNat, UInt8.reduceToNat]; subst h__) | refine RUN.block rfl ?_ | refine RUN.skip rfl ?_ | refine RUN.ret rfl ?_ | (refine RUN.exit rfl ?_; dsimp only [xfind, xfB, Nat.beq]) | (refine RUN.seq rfl (fun κ__ h__ => ?_); subst h__) | (refine RUN.cond rfl (p := true) rfl (fun _ => ?_) (fun h__ => by cases h__)) | (refine RUN.cond rfl (p := false) rfl (fun h__ => by cases h__) (fun _ => ?_)) | refine ⟨by first | trivial | omega | (and_intros <;> first | trivial | rfl | omega) | rfl, ?_⟩))
      rw [hq]
      rw [show s.put (Rec.mk _ _ _ _ _ _ _ _ _) = (0, s1) from hp]
      dsimp only
      rw [hu]
      dsimp only
      rw [w1]
      dsimp only
      generalize s2.names = nn at w2 ⊢
      obtain ⟨m, g⟩ := nn
      dsimp only at w2
      subst w2
      refine ⟨⟨by first | rfl | trivial, by omega, Nat.le_trans l1 (by decide)⟩, fork_intro (fun h => absurd h (by decide)) (fun _ => ⟨⟨by first | rfl | trivial, by omega⟩, fork_intro (fun h => absurd h (by decide)) (fun _ => ⟨⟨by first | rfl | trivial, by omega⟩, fork_intro (fun h => absurd h (by decide)) (fun _ => ?_)⟩)⟩)⟩
      (repeat (first | ((first | refine RUN.sreg hsp hkp rfl (fun κ__ h__ => ?_) | refine RUN.reg hsp hkp rfl (fun κ__ h__ => ?_)); dsimp only [e8, e9, e10, e12, e13, e20, e21, e22, evV, vtD, rwD, recD, intlD, allB, not, evL, consG, consO, valG, valO, nilG, nilO, noMore, vtG, vtO, id, rhoC, hsetL, happ, happO, nodupC, inC, appN, Vt.o1, Vt.o2, vR, toCe_vf, By.eta, Ce.eta, Vt.eta, Rec.eta, Num.eta, Rec.C, sfn, txA, go_sem, Nat.succ, Int.reduceToNat, Nat.reduceAdd, Nat.reduceMul, Nat.reduceSub, Int.reduceLT, Int.reduceLE, Int.reduceNeg, UInt64.reduceToNat, UInt32.reduceToNat, UInt8.reduceToNat]; subst h__) | refine RUN.block rfl ?_ | refine RUN.skip rfl ?_ | refine RUN.ret rfl ?_ | (refine RUN.exit rfl ?_; dsimp only [xfind, xfB, Nat.beq]) | (refine RUN.seq rfl (fun κ__ h__ => ?_); subst h__) | (refine RUN.cond rfl (p := true) rfl (fun _ => ?_) (fun h__ => by cases h__)) | (refine RUN.cond rfl (p := false) rfl (fun h__ => by cases h__) (fun _ => ?_)) | refine ⟨by first | trivial | omega | (and_intros <;> first | trivial | rfl | omega) | rfl, ?_⟩))
      rw [show s2.put (Rec.mk _ _ _ _ _ _ _ _ _) = (0, s3) from hv]
      dsimp only
      generalize s3.names = nn at v6 ⊢
      obtain ⟨m, g'⟩ := nn
      dsimp only at v6
      subst v6
      refine ⟨⟨by first | rfl | trivial, by omega, Nat.le_trans l2 (by decide)⟩, fork_intro (fun _ => ⟨⟨by first | rfl | trivial, by first | rfl | trivial⟩, ?_⟩) (fun h => absurd h (by decide))⟩
      (repeat (first | ((first | refine RUN.sreg hsp hkp rfl (fun κ__ h__ => ?_) | refine RUN.reg hsp hkp rfl (fun κ__ h__ => ?_)); dsimp only [e8, e9, e10, e12, e13, e20, e21, e22, evV, vtD, rwD, recD, intlD, allB, not, evL, consG, consO, valG, valO, nilG, nilO, noMore, vtG, vtO, id, rhoC, hsetL, happ, happO, nodupC, inC, appN, Vt.o1, Vt.o2, vR, toCe_vf, By.eta, Ce.eta, Vt.eta, Rec.eta, Num.eta, Rec.C, sfn, txA, go_sem, Nat.succ, Int.reduceToNat, Nat.reduceAdd, Nat.reduceMul, Nat.reduceSub, Int.reduceLT, Int.reduceLE, Int.reduceNeg, UInt64.reduceToNat, UInt32.reduceToNat, UInt8.reduceToNat]; subst h__) | refine RUN.block rfl ?_ | refine RUN.skip rfl ?_ | refine RUN.ret rfl ?_ | (refine RUN.exit rfl ?_; dsimp only [xfind, xfB, Nat.beq]) | (refine RUN.seq rfl (fun κ__ h__ => ?_); subst h__) | (refine RUN.cond rfl (p := true) rfl (fun _ => ?_) (fun h__ => by cases h__)) | (refine RUN.cond rfl (p := false) rfl (fun h__ => by cases h__) (fun _ => ?_)) | refine ⟨by first | trivial | omega | (and_intros <;> first | trivial | rfl | omega) | rfl, ?_⟩))
      rw [hκ]
      exact leaf_true rfl
end Go.Abs
