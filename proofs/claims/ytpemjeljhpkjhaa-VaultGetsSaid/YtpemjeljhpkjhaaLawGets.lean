/-
  Own work. Conditions: none. The vault's plain laws: accounts in a row. Plain laws: texts in order. Plain laws of VaultGets: what was put is there. The code of a law in the short form. (Own work; printed by our own program.) The walk of the law VaultGets. The walk of the law VaultGets.
-/
import Derived.Test.YtpemjeljhpkjhaaVaC
set_option linter.unusedVariables false
set_option linter.unusedSimpArgs false
set_option linter.unnecessarySimpa false
namespace Go.Abs
open Go.Proofs
set_option maxRecDepth 100000

/-- A record by the i-th name. -/
def rNm (n : Int) (b : By) (i : Nat) : Rec := { recV n b with name := lstF nmL i }
theorem rNm_good (n : Int) (b : By) (i : Nat) (hi : i < 10) : (rNm n b i).good := by
  obtain ⟨h1, h2, h3⟩ := recV_good n b
  refine ⟨?_, h2, h3⟩
  have hn := nmL_name i hi
  unfold Rec.ok at h1 ⊢
  simp only [Bool.and_eq_true] at h1 ⊢
  obtain ⟨a1, a2, a3, a4⟩ := h1
  exact ⟨a1, a2, hn, a4⟩
def firstA (f : Nat → Rec) (i : Nat) (k : Nat) : Option Rec := if k < i then some (f k) else none
theorem nmL_inj : ∀ i, i < 10 → ∀ j, j < 10 → (lstF nmL i == lstF nmL j) = decide (i = j) := by decide
theorem firstA_named {f : Nat → Rec} {i : Nat} (hi : i ≤ 8) (hf : ∀ k, k < 10 → (f k).name = lstF nmL k) {j : Nat} (hj : j < 10) : firstI (named (firstA f i) (lstF nmL j)) 8 = if j < i then (j : Int) else -1 := by
  have hn : ∀ k, k < 8 → named (firstA f i) (lstF nmL j) k = decide (k = j ∧ j < i) := fun k hk => by
    unfold named firstA
    by_cases h : k < i
    · simp only [if_pos h, hf k (by omega), nmL_inj k (by omega) j hj]
      rw [decide_eq_decide]
      omega
    · simp only [if_neg h]
      rw [eq_comm, decide_eq_false_iff_not]
      omega
  split
  · rename_i h
    refine firstI_is (k := j) (by omega) (by rw [hn j (by omega)]; simp [h]) fun x hx => ?_
    rw [hn x (by omega), decide_eq_false_iff_not]; omega
  · rename_i h
    have h1 := firstI_in (named (firstA f i) (lstF nmL j)) 8
    rcases Int.lt_or_le (firstI (named (firstA f i) (lstF nmL j)) 8) 0 with h2 | h2
    · omega
    · obtain ⟨a, b, _⟩ := firstI_some rfl h2
      rw [hn _ (by omega)] at b
      have := of_decide_eq_true b
      omega
theorem firstA_none {f : Nat → Rec} {i : Nat} (hi : i ≤ 8) : firstI (noneA (firstA f i)) 8 = if i < 8 then (i : Int) else -1 := by
  have hn : ∀ k, noneA (firstA f i) k = decide (i ≤ k) := fun k => by
    unfold noneA firstA
    by_cases h : k < i
    · simp only [if_pos h]; rw [eq_comm, decide_eq_false_iff_not]; omega
    · simp only [if_neg h]; rw [eq_comm, decide_eq_true_iff]; omega
  split
  · rename_i h
    exact firstI_is h (by rw [hn]; simp) (fun x hx => by rw [hn, decide_eq_false_iff_not]; omega)
  · rename_i h
    have h1 := firstI_in (noneA (firstA f i)) 8
    rcases Int.lt_or_le (firstI (noneA (firstA f i)) 8) 0 with h2 | h2
    · omega
    · obtain ⟨a, b, _⟩ := firstI_some rfl h2
      rw [hn] at b
      have := of_decide_eq_true b
      omega
theorem firstA_slot {f : Nat → Rec} {i : Nat} (hi : i < 8) (hf : ∀ k, k < 10 → (f k).name = lstF nmL k) : slotA (firstA f i) (lstF nmL i) = i := by
  unfold slotA
  rw [firstA_named (by omega) hf (by omega), if_neg (by omega : ¬ i < i), if_pos (by omega), firstA_none (by omega), if_pos hi]
theorem firstA_upd {f : Nat → Rec} {i : Nat} : updA (firstA f i) i (some (f i)) = firstA f (i + 1) := by
  funext k
  unfold updA firstA
  by_cases h : k = i
  · subst h; rw [if_pos rfl, if_pos (by omega)]
  · rw [if_neg h]
    by_cases h2 : k < i
    · rw [if_pos h2, if_pos (by omega)]
    · rw [if_neg h2, if_neg (by omega)]
theorem slot_of_free {A : Nat → Option Rec} (nm : TX) {j : Nat} (hj : j < 8) (hA : A j = none) : ∃ m : Nat, slotA A nm = m := by
  have h1 := firstI_in (named A nm) 8
  have h2 : 0 ≤ firstI (noneA A) 8 := by
    rcases Int.lt_or_le (firstI (noneA A) 8) 0 with h | h
    · have := firstI_none h j hj
      unfold noneA at this; rw [hA] at this; cases this
    · exact h
  refine ⟨(slotA A nm).toNat, ?_⟩
  unfold slotA
  split <;> omega
theorem firstA_len (f : Nat → Rec) (i : Nat) : ∀ n, (nmsA (firstA f i) n).length = min i n
  | 0 => by simp [nmsA]
  | n + 1 => by
    have ih := firstA_len f i n
    rw [nmsA]
    unfold firstA at ih ⊢
    by_cases h : n < i
    · simp only [if_pos h, List.length_append, List.length_cons, List.length_nil, ih]; omega
    · simp only [if_neg h, ih]; omega
theorem names_len {s : Vt} {A : Nat → Option Rec} {T : Int} (h : Acc s A T) : s.names.1 = (nmsA A 8).length := by
  show (s.nmTo 8).length = _
  rw [h.nm 8 (Nat.le_refl 8)]
open Go.Proofs
set_option maxRecDepth 100000

/-! ### The order of texts -/
theorem less_irrefl : ∀ a : TX, Op.bytesLess a a = false
  | [] => rfl
  | x :: a => by
    have := less_irrefl a
    simp [Op.bytesLess, this]
theorem less_asymm : ∀ {a b : TX}, Op.bytesLess a b = true → Op.bytesLess b a = false
  | _, [], h => by simp [Op.bytesLess] at h
  | [], _ :: _, _ => by simp [Op.bytesLess]
  | x :: a, y :: b, h => by
    simp only [Op.bytesLess, Bool.or_eq_true, decide_eq_true_eq, Bool.and_eq_true, beq_iff_eq] at h
    simp only [Op.bytesLess, Bool.or_eq_false_iff, decide_eq_false_iff_not, Bool.and_eq_false_iff]
    rcases h with h | ⟨rfl, h⟩
    · refine ⟨fun h2 => ?_, .inl ?_⟩
      · have h1 := UInt8.lt_iff_toNat_lt.1 h; have h3 := UInt8.lt_iff_toNat_lt.1 h2; omega
      · rw [beq_eq_false_iff_ne]; intro e; subst e; have h1 := UInt8.lt_iff_toNat_lt.1 h; omega
    · exact ⟨fun h2 => by have h3 := UInt8.lt_iff_toNat_lt.1 h2; omega, .inr (less_asymm h)⟩
theorem less_total : ∀ {a b : TX}, Op.bytesLess a b = false → Op.bytesLess b a = false → a = b
  | [], [], _, _ => rfl
  | [], _ :: _, h, _ => by simp [Op.bytesLess] at h
  | _ :: _, [], _, h => by simp [Op.bytesLess] at h
  | x :: a, y :: b, h, k => by
    simp only [Op.bytesLess, Bool.or_eq_false_iff, decide_eq_false_iff_not, Bool.and_eq_false_iff] at h k
    have e : x = y := by
      have h1 := h.1; have k1 := k.1
      rw [UInt8.lt_iff_toNat_lt] at h1 k1
      exact UInt8.toNat_inj.1 (by omega)
    subst e
    obtain ⟨_, h2⟩ := h
    obtain ⟨_, k2⟩ := k
    simp only [beq_self_eq_true, Bool.true_eq_false, false_or] at h2 k2
    rw [less_total h2 k2]
theorem less_trans : ∀ {a b c : TX}, Op.bytesLess a b = true → Op.bytesLess b c = true → Op.bytesLess a c = true
  | _, [], _, h, _ => by simp [Op.bytesLess] at h
  | _, _ :: _, [], _, k => by simp [Op.bytesLess] at k
  | [], _ :: _, _ :: _, _, _ => by simp [Op.bytesLess]
  | x :: a, y :: b, z :: c, h, k => by
    simp only [Op.bytesLess, Bool.or_eq_true, decide_eq_true_eq, Bool.and_eq_true, beq_iff_eq] at h k ⊢
    rcases h with h | ⟨rfl, h⟩
    · rcases k with k | ⟨rfl, k⟩
      · left
        rw [UInt8.lt_iff_toNat_lt] at h k ⊢
        omega
      · exact .inl h
    · rcases k with k | ⟨rfl, k⟩
      · exact .inl k
      · exact .inr ⟨rfl, less_trans h k⟩
/-- Not behind. -/
def le (a b : TX) : Prop := Op.bytesLess b a = false
theorem le_refl (a : TX) : le a a := less_irrefl a
theorem le_of_less {a b : TX} (h : Op.bytesLess a b = true) : le a b := less_asymm h
theorem le_anti {a b : TX} (h : le a b) (k : le b a) : a = b := less_total k h
theorem le_trans' {a b c : TX} (h : le a b) (k : le b c) : le a c := by
  unfold le at *
  cases hc : Op.bytesLess c a with
  | false => rfl
  | true =>
    cases hb : Op.bytesLess a b with
    | true => rw [less_trans hc hb] at k; cases k
    | false =>
      have : a = b := less_total hb h
      subst this
      rw [hc] at k; cases k
theorem le_total' (a b : TX) : le a b ∨ le b a := by
  cases h : Op.bytesLess b a with
  | false => exact .inl h
  | true => exact .inr (less_asymm h)

/-! ### Rows as lists -/
def toL (g : Nat → TX) : Nat → List TX
  | 0 => []
  | n + 1 => toL g n ++ [g n]
theorem toL_len (g : Nat → TX) : ∀ n, (toL g n).length = n
  | 0 => rfl
  | n + 1 => by rw [toL, List.length_append, toL_len g n]; rfl
theorem toL_congr {g h : Nat → TX} : ∀ n, (∀ i, i < n → g i = h i) → toL g n = toL h n
  | 0, _ => rfl
  | n + 1, e => by rw [toL, toL, toL_congr n (fun i hi => e i (by omega)), e n (by omega)]
theorem toL_get (g : Nat → TX) : ∀ n i, i < n → (toL g n)[i]? = some (g i)
  | 0, _, h => absurd h (by omega)
  | n + 1, i, h => by
    rw [toL]
    rcases Nat.lt_or_ge i n with hi | hi
    · rw [List.getElem?_append_left (by rw [toL_len]; exact hi)]; exact toL_get g n i hi
    · have : i = n := by omega
      subst this
      rw [List.getElem?_append_right (by rw [toL_len]; omega), toL_len, Nat.sub_self]; rfl
theorem toL_lst (L : List TX) : toL (lstF L) L.length = L := by
  apply List.ext_getElem?
  intro i
  rcases Nat.lt_or_ge i L.length with h | h
  · rw [toL_get _ _ _ h, List.getElem?_eq_getElem h]
    simp [lstF, List.getD_eq_getElem?_getD, List.getElem?_eq_getElem h]
  · rw [List.getElem?_eq_none_iff.2 (by rw [toL_len]; exact h), List.getElem?_eq_none_iff.2 h]
theorem swp_perm (g : Nat → TX) (j : Nat) : ∀ n, 0 < j → j < n → (toL (swp g j) n).Perm (toL g n)
  | 0, _, h => absurd h (by omega)
  | n + 1, h0, h => by
    rcases Nat.lt_or_ge j n with hj | hj
    · rw [toL, toL]
      have e : swp g j n = g n := by unfold swp; rw [if_neg (by omega), if_neg (by omega)]
      rw [e]
      exact (swp_perm g j n h0 hj).append_right _
    · obtain rfl : j = n := by omega
      obtain ⟨m, rfl⟩ : ∃ m, j = m + 1 := ⟨j - 1, by omega⟩
      have e1 : swp g (m + 1) (m + 1) = g m := by unfold swp; rw [if_pos rfl]; rfl
      have e2 : swp g (m + 1) m = g (m + 1) := by unfold swp; rw [if_neg (by omega), if_pos (by omega)]
      have e3 : toL (swp g (m + 1)) m = toL g m := toL_congr m fun i hi => by unfold swp; rw [if_neg (by omega), if_neg (by omega)]
      simp only [toL, e1, e2, e3, List.append_assoc, List.cons_append, List.nil_append]
      exact (List.Perm.swap _ _ _).append_left _
theorem insF_perm (n : Nat) : ∀ (j : Nat) (g : Nat → TX), j < n → (toL (insF g j) n).Perm (toL g n)
  | 0, _, _ => List.Perm.refl _
  | j + 1, g, h => by
    rw [insF]
    split
    · exact (insF_perm n j _ (by omega)).trans (swp_perm g (j + 1) n (by omega) h)
    · exact List.Perm.refl _
theorem outF_perm (n : Nat) (g : Nat → TX) : ∀ k, k < n → (toL (outF g k) n).Perm (toL g n)
  | 0, _ => List.Perm.refl _
  | k + 1, h => (insF_perm n (k + 1) _ h).trans (outF_perm n g k (by omega))
theorem srt_perm (g : Nat → TX) (n : Nat) : (toL (srt g n) n).Perm (toL g n) := by
  cases n with
  | zero => exact List.Perm.refl _
  | succ n => exact outF_perm (n + 1) g n (by omega)
theorem insF_sorted (K : Nat) : ∀ (j : Nat) (q : Nat → TX), j ≤ K → (∀ i, i + 1 ≤ K → i + 1 ≠ j → le (q i) (q (i + 1))) → (0 < j → j < K → le (q (j - 1)) (q (j + 1))) → ∀ i, i + 1 ≤ K → le (insF q j i) (insF q j (i + 1))
  | 0, q, _, h, _, i, hi => h i hi (by omega)
  | j + 1, q, hj, h, h2, i, hi => by
    rw [insF]
    split
    · rename_i hl
      have hl := le_of_less hl
      have s0 : swp q (j + 1) (j + 1) = q j := by unfold swp; rw [if_pos rfl]; rfl
      have s1 : swp q (j + 1) j = q (j + 1) := by unfold swp; rw [if_neg (by omega), if_pos (by omega)]
      have s2 : ∀ x, x ≠ j + 1 → x ≠ j → swp q (j + 1) x = q x := fun x h1 h2 => by unfold swp; rw [if_neg h1, if_neg (by omega)]
      refine insF_sorted K j _ (by omega) (fun x hx hne => ?_) (fun h0 hlt => ?_) i hi
      · by_cases c1 : x = j + 1
        · subst c1
          rw [s0, s2 (j + 1 + 1) (by omega) (by omega)]
          exact h2 (by omega) (by omega)
        · by_cases c2 : x = j
          · subst c2
            rw [s1, s0]; exact hl
          · rw [s2 x c1 c2, s2 (x + 1) (by omega) (by omega)]
            exact h x hx (by omega)
      · rw [s2 (j - 1) (by omega) (by omega), s0]
        have := h (j - 1) (by omega) (by omega)
        rwa [show j - 1 + 1 = j by omega] at this
    · rename_i hl
      by_cases c : i = j
      · subst c
        unfold le
        cases hb : Op.bytesLess (q (i + 1)) (q i) with
        | false => rfl
        | true => exact absurd hb hl
      · exact h i hi (by omega)
theorem outF_sorted (g : Nat → TX) : ∀ k i, i + 1 ≤ k → le (outF g k i) (outF g k (i + 1))
  | 0, _, h => absurd h (by omega)
  | k + 1, i, h => insF_sorted (k + 1) (k + 1) (outF g k) (Nat.le_refl _) (fun i hi hne => outF_sorted g k i (by omega)) (fun _ h => absurd h (by omega)) i h
theorem srt_sorted (g : Nat → TX) (n i : Nat) (h : i + 1 < n) : le (srt g n i) (srt g n (i + 1)) := outF_sorted g (n - 1) i (by omega)
theorem le_chain {g : Nat → TX} {n : Nat} (h : ∀ i, i + 1 < n → le (g i) (g (i + 1))) : ∀ j i, i ≤ j → j < n → le (g i) (g j)
  | 0, i, hi, _ => by
    obtain rfl : i = 0 := by omega
    exact le_refl _
  | j + 1, i, hi, hj => by
    by_cases c : i = j + 1
    · subst c; exact le_refl _
    · exact le_trans' (le_chain h j i (by omega) (by omega)) (h j hj)
theorem toL_pairwise {g : Nat → TX} {n : Nat} (h : ∀ i, i + 1 < n → le (g i) (g (i + 1))) : ∀ m, m ≤ n → (toL g m).Pairwise le
  | 0, _ => List.Pairwise.nil
  | m + 1, hm => by
    rw [toL, List.pairwise_append]
    refine ⟨toL_pairwise h m (by omega), List.pairwise_singleton _ _, fun a ha b hb => ?_⟩
    simp at hb; subst hb
    obtain ⟨i, hi, rfl⟩ := List.getElem_of_mem ha
    rw [toL_len] at hi
    have e : (toL g m)[i] = g i := by have := toL_get g m i hi; rw [List.getElem?_eq_getElem (by rw [toL_len]; exact hi)] at this; exact Option.some.inj this
    rw [e]
    exact le_chain h m i (by omega) (by omega)
/-- The names of a vault: those that there are, in order, whatever list tells them in order. -/
theorem names_eq {s : Vt} {H : List TX} (hp : (s.nmTo 8).Perm H) (hs : H.Pairwise le) : s.names.1 = H.length ∧ ∀ i, i < H.length → s.names.2 i = H.getD i [] := by
  have hl : (s.nmTo 8).length = H.length := hp.length_eq
  have e : toL (srt (lstF (s.nmTo 8)) (s.nmTo 8).length) (s.nmTo 8).length = H := by
    have p := srt_perm (lstF (s.nmTo 8)) (s.nmTo 8).length
    rw [toL_lst] at p
    exact List.Perm.eq_of_pairwise (fun a b _ _ h1 h2 => le_anti h1 h2) (toL_pairwise (srt_sorted _ _) _ (Nat.le_refl _)) hs (p.trans hp)
  refine ⟨hl, fun i hi => ?_⟩
  have := toL_get (srt (lstF (s.nmTo 8)) (s.nmTo 8).length) (s.nmTo 8).length i (by omega)
  rw [e] at this
  show srt (lstF (s.nmTo 8)) (s.nmTo 8).length i = _
  rw [List.getD_eq_getElem?_getD, this]; rfl
open Go.Proofs
set_option maxRecDepth 100000

/-! ### How many -/
def cntP (p : Nat → Bool) : Nat → Nat
  | 0 => 0
  | n + 1 => cntP p n + (if p n then 1 else 0)
theorem cntP_zero {p : Nat → Bool} : ∀ n, (∀ k, k < n → p k = false) → cntP p n = 0
  | 0, _ => rfl
  | n + 1, h => by rw [cntP, cntP_zero n (fun k hk => h k (by omega)), h n (by omega)]; rfl
theorem cntP_one {p : Nat → Bool} {j : Nat} (hj : p j = true) : ∀ n, j < n → (∀ k, k < n → k ≠ j → p k = false) → cntP p n = 1
  | 0, h, _ => absurd h (by omega)
  | n + 1, h, hk => by
    rw [cntP]
    by_cases c : j = n
    · subst c
      rw [cntP_zero j (fun k h' => hk k (by omega) (by omega)), hj]; rfl
    · rw [cntP_one hj n (by omega) (fun k h' hn => hk k (by omega) hn), hk n (by omega) (fun e => c e.symm)]; rfl
/-- The names of those that there are. -/
def hasL (has : Nat → Bool) : Nat → List TX
  | 0 => []
  | k + 1 => if has k then hasL has k ++ [lstF nmL k] else hasL has k
theorem count_nms (A : Nat → Option Rec) (a : TX) : ∀ n, (nmsA A n).count a = cntP (named A a) n
  | 0 => rfl
  | n + 1 => by
    rw [nmsA, cntP, ← count_nms A a n]
    unfold named
    cases hA : A n with
    | none => simp
    | some r => simp only [List.count_append, List.count_singleton]
theorem count_has (has : Nat → Bool) (a : TX) : ∀ n, (hasL has n).count a = cntP (fun k => has k && (lstF nmL k == a)) n
  | 0 => rfl
  | n + 1 => by
    rw [hasL, cntP, ← count_has has a n]
    cases h : has n with
    | false => simp
    | true => simp only [if_true, List.count_append, List.count_singleton, Bool.true_and]
/-- What the law keeps in mind, and what the vault has. -/
structure Gts (s : Vt) (i : Nat) (last : Nat → Rec) (has : Nat → Bool) : Prop where
  fine : s.fine
  dead : s.dead = false
  left : s.left = -1
  kept : ∀ k, k < 8 → has k = true → (last k).good ∧ (last k).name = lstF nmL k
  acc : ∃ A, Acc s A (1 + i) ∧ (∀ j r, j < 8 → A j = some r → ∃ k, k < 8 ∧ has k = true ∧ r = last k) ∧ (∀ k, k < 8 → has k = true → ∃ j, j < 8 ∧ A j = some (last k)) ∧ (∀ j j' r r', j < 8 → j' < 8 → A j = some r → A j' = some r' → r.name = r'.name → j = j')
theorem nm_eq {i j : Nat} (hi : i < 10) (hj : j < 10) (h : lstF nmL i = lstF nmL j) : i = j := by
  have := nmL_inj i hi j hj
  rw [h, beq_self_eq_true] at this
  exact of_decide_eq_true this.symm
section
variable {s : Vt} {i : Nat} {last : Nat → Rec} {has : Nat → Bool} {A : Nat → Option Rec}
theorem gts_find (h2 : ∀ k, k < 8 → has k = true → (last k).good ∧ (last k).name = lstF nmL k) (r1 : ∀ j r, j < 8 → A j = some r → ∃ k, k < 8 ∧ has k = true ∧ r = last k) (r2 : ∀ k, k < 8 → has k = true → ∃ j, j < 8 ∧ A j = some (last k))
    (r3 : ∀ j j' r r', j < 8 → j' < 8 → A j = some r → A j' = some r' → r.name = r'.name → j = j') {k : Nat} (hk : k < 8) :
    (has k = true → ∃ j : Nat, j < 8 ∧ A j = some (last k) ∧ firstI (named A (lstF nmL k)) 8 = j) ∧ (has k = false → firstI (named A (lstF nmL k)) 8 < 0) := by
  refine ⟨fun h => ?_, fun h => ?_⟩
  · obtain ⟨j, hj, hA⟩ := r2 k hk h
    refine ⟨j, hj, hA, firstI_is hj ?_ fun x hx => ?_⟩
    · unfold named; rw [hA]; simp only [(h2 k hk h).2]; exact beq_self_eq_true _
    · unfold named
      cases hx' : A x with
      | none => rfl
      | some r =>
        cases hn : (r.name == lstF nmL k) with
        | false => exact hn
        | true =>
          have := r3 x j r (last k) (by omega) hj hx' hA (by rw [(h2 k hk h).2]; exact beq_iff_eq.1 hn)
          omega
  · rcases Int.lt_or_le (firstI (named A (lstF nmL k)) 8) 0 with h0 | h0
    · exact h0
    · obtain ⟨a, b, _⟩ := firstI_some rfl h0
      obtain ⟨x, hx⟩ : ∃ x, (firstI (named A (lstF nmL k)) 8).toNat = x := ⟨_, rfl⟩
      rw [hx] at b
      unfold named at b
      split at b
      · rename_i r hr
        obtain ⟨k', hk', hh, rfl⟩ := r1 x r (by omega) hr
        have e := beq_iff_eq.1 b
        rw [(h2 k' hk' hh).2] at e
        have := nm_eq (by omega) (by omega) e
        subst this
        rw [h] at hh; cases hh
      · cases b
theorem gts_perm (h2 : ∀ k, k < 8 → has k = true → (last k).good ∧ (last k).name = lstF nmL k) (r1 : ∀ j r, j < 8 → A j = some r → ∃ k, k < 8 ∧ has k = true ∧ r = last k) (r2 : ∀ k, k < 8 → has k = true → ∃ j, j < 8 ∧ A j = some (last k))
    (r3 : ∀ j j' r r', j < 8 → j' < 8 → A j = some r → A j' = some r' → r.name = r'.name → j = j') : (nmsA A 8).Perm (hasL has 8) := by
  rw [List.perm_iff_count]
  intro a
  rw [count_nms, count_has]
  by_cases hex : ∃ k, k < 8 ∧ has k = true ∧ lstF nmL k = a
  · obtain ⟨k, hk, hh, rfl⟩ := hex
    obtain ⟨j, hj, hA⟩ := r2 k hk hh
    rw [cntP_one (j := j) (by unfold named; rw [hA]; simp only [(h2 k hk hh).2]; exact beq_self_eq_true _) 8 hj ?_, cntP_one (j := k) (by simp only [hh, beq_self_eq_true, Bool.true_and]) 8 hk ?_]
    · intro x hx hne
      cases hb : has x with
      | false => rfl
      | true =>
        simp only [Bool.true_and]
        rw [beq_eq_false_iff_ne]
        exact fun e => hne (nm_eq (by omega) (by omega) e)
    · intro x hx hne
      unfold named
      cases hx' : A x with
      | none => rfl
      | some r =>
        simp only
        rw [beq_eq_false_iff_ne]
        exact fun e => hne (r3 x j r (last k) hx hj hx' hA (by rw [(h2 k hk hh).2]; exact e))
  · rw [cntP_zero 8 ?_, cntP_zero 8 ?_]
    · intro k hk
      cases hb : has k with
      | false => rfl
      | true =>
        simp only [Bool.true_and]
        rw [beq_eq_false_iff_ne]
        exact fun e => hex ⟨k, hk, hb, e⟩
    · intro j hj
      unfold named
      cases hA : A j with
      | none => rfl
      | some r =>
        simp only
        rw [beq_eq_false_iff_ne]
        obtain ⟨k, hk, hh, rfl⟩ := r1 j r hj hA
        exact fun e => hex ⟨k, hk, hh, by rw [← e, (h2 k hk hh).2]⟩
theorem hasL_len (has : Nat → Bool) : ∀ n, (hasL has n).length ≤ n
  | 0 => Nat.le_refl _
  | n + 1 => by
    have := hasL_len has n
    rw [hasL]
    split
    · rw [List.length_append]; simp; omega
    · omega
theorem hasL_lt {k : Nat} (h : has k = false) : ∀ n, k < n → (hasL has n).length < n
  | 0, hk => absurd hk (by omega)
  | n + 1, hk => by
    rw [hasL]
    by_cases c : k = n
    · subst c; rw [h]; have := hasL_len has k; simp only [Bool.false_eq_true, if_false]; omega
    · have := hasL_lt h n (by omega)
      split
      · rw [List.length_append]; simp; omega
      · omega
theorem nmsA_all : ∀ n, (∀ k, k < n → A k ≠ none) → (nmsA A n).length = n
  | 0, _ => rfl
  | n + 1, h => by
    rw [nmsA]
    cases hA : A n with
    | none => exact absurd hA (h n (by omega))
    | some r => simp only [List.length_append, nmsA_all n (fun k hk => h k (by omega)), List.length_cons, List.length_nil]
theorem hasL_sorted (has : Nat → Bool) : (hasL has 8).Pairwise le := by
  have key : ∀ n, n ≤ 8 → (hasL has n).Pairwise le ∧ ∀ a ∈ hasL has n, ∃ k, k < n ∧ a = lstF nmL k := fun n => by
    induction n with
    | zero => exact fun _ => ⟨List.Pairwise.nil, fun a h => by simp [hasL] at h⟩
    | succ n ih =>
      intro hn
      obtain ⟨h1, h2⟩ := ih (by omega)
      rw [hasL]
      split
      · refine ⟨?_, fun a ha => ?_⟩
        · rw [List.pairwise_append]
          refine ⟨h1, List.pairwise_singleton _ _, fun a ha b hb => ?_⟩
          simp at hb; subst hb
          obtain ⟨k, hk, rfl⟩ := h2 a ha
          have ord : ∀ n, n < 8 → ∀ k, k < n → Op.bytesLess (lstF nmL n) (lstF nmL k) = false := by decide
          exact ord n (by omega) k hk
        · rcases List.mem_append.1 ha with ha | ha
          · obtain ⟨k, hk, e⟩ := h2 a ha; exact ⟨k, by omega, e⟩
          · simp at ha; exact ⟨n, by omega, ha⟩
      · exact ⟨h1, fun a ha => by obtain ⟨k, hk, e⟩ := h2 a ha; exact ⟨k, by omega, e⟩⟩
  exact (key 8 (Nat.le_refl 8)).1
def setF {α : Type} (f : Nat → α) (k : Nat) (x : α) (j : Nat) : α := if j = k then x else f j
theorem Gts.put (h : Gts s i last has) (hi : i ≤ 1000) {k : Nat} (hk : k < 8) {r : Rec} (hr : r.good) (hn : r.name = lstF nmL k) : (s.put r).1 = 0 ∧ Gts (s.put r).2 (i + 1) (setF last k r) (setF has k true) := by
  obtain ⟨A, a1, r1, r2, r3⟩ := h.acc
  have hlen := out_len hr.ok
  obtain ⟨f1, f2⟩ := gts_find h.kept r1 r2 r3 hk
  have hs : ∃ n : Nat, n < 8 ∧ slotA A r.name = n ∧ (∀ j r', j < 8 → j ≠ n → A j = some r' → r'.name ≠ r.name) ∧ (∀ k', k' < 8 → has k' = true → k' ≠ k → A n ≠ some (last k')) := by
    rw [hn]
    cases hh : has k with
    | true =>
      obtain ⟨j, hj, hA, hf⟩ := f1 hh
      refine ⟨j, hj, by unfold slotA; rw [hf, if_neg (by omega)], fun x r' hx hne hA' e => ?_, fun k' hk' hh' hne e => ?_⟩
      · exact hne (r3 x j r' (last k) hx hj hA' hA (by rw [e, (h.kept k hk hh).2]))
      · rw [hA] at e
        have e := congrArg Rec.name (Option.some.inj e)
        rw [(h.kept k hk hh).2, (h.kept k' hk' hh').2] at e
        exact hne (nm_eq (by omega) (by omega) e.symm)
    | false =>
      have hf := f2 hh
      have hfree : ∃ j, j < 8 ∧ A j = none := by
        refine Classical.byContradiction fun hno => ?_
        have e1 := nmsA_all (A := A) 8 fun j hj e => hno ⟨j, hj, e⟩
        have e2 := (gts_perm h.kept r1 r2 r3).length_eq
        have e3 := hasL_lt hh 8 hk
        omega
      obtain ⟨j0, hj0, hA0⟩ := hfree
      obtain ⟨n, e⟩ := slot_of_free (A := A) (lstF nmL k) hj0 hA0
      have hin := slotA_in A (lstF nmL k)
      have hAn : A n = none := by
        have hfn := firstI_in (noneA A) 8
        have e' : firstI (noneA A) 8 = n := by unfold slotA at e; rw [if_pos hf] at e; exact e
        obtain ⟨_, b, _⟩ := firstI_some e' (by omega)
        rw [Int.toNat_natCast] at b
        unfold noneA at b
        split at b
        · cases b
        · assumption
      refine ⟨n, by omega, e, fun x r' hx _ hA' e' => ?_, fun k' _ _ _ e' => by rw [hAn] at e'; cases e'⟩
      obtain ⟨k', hk', hh', rfl⟩ := r1 x r' hx hA'
      rw [(h.kept k' hk' hh').2] at e'
      have := nm_eq (by omega) (by omega) e'
      subst this
      rw [hh] at hh'; cases hh'
  obtain ⟨n, hn8, hs, u1, u2⟩ := hs
  obtain ⟨p1, p2, p3, p4, p5⟩ := a1.put hr (by omega) h.dead (.inl (by rw [h.left]; omega)) hs
  refine ⟨p1, put_fine h.fine (by omega), p4, by rw [p5, leftBy, h.left, if_pos (by omega)], fun k' hk' hh' => ?_, updA A n (some r), p2.mono (by omega), fun j r' hj hA' => ?_, fun k' hk' hh' => ?_, fun j j' q q' hj hj' hq hq' e => ?_⟩
  · unfold setF at hh' ⊢
    by_cases c : k' = k
    · subst c; rw [if_pos rfl]; exact ⟨hr, hn⟩
    · rw [if_neg c] at hh' ⊢; exact h.kept k' hk' hh'
  · unfold updA at hA'
    split at hA'
    · cases hA'
      exact ⟨k, hk, by simp [setF], by simp [setF]⟩
    · rename_i hne
      obtain ⟨k', hk', hh', rfl⟩ := r1 j r' hj hA'
      have c : k' ≠ k := fun c => by
        subst c
        exact u1 j _ hj hne hA' (by rw [(h.kept k' hk' hh').2, hn])
      exact ⟨k', hk', by simp [setF, c, hh'], by simp [setF, c]⟩
  · unfold setF at hh' ⊢
    by_cases c : k' = k
    · subst c; exact ⟨n, hn8, by simp [updA]⟩
    · rw [if_neg c] at hh' ⊢
      obtain ⟨j, hj, hA⟩ := r2 k' hk' hh'
      have hne : j ≠ n := fun e => by subst e; exact u2 k' hk' hh' c hA
      exact ⟨j, hj, by simp [updA, hne, hA]⟩
  · unfold updA at hq hq'
    split at hq <;> split at hq'
    · omega
    · rename_i c1 c2
      cases hq
      exact absurd e.symm (u1 j' q' hj' c2 hq')
    · rename_i c1 c2
      cases hq'
      exact absurd e (u1 j q hj c1 hq)
    · exact r3 j j' q q' hj hj' hq hq' e
theorem Gts.gone (h : Gts s i last has) (hi : i ≤ 1000) {k : Nat} (hk : k < 8) (hh : has k = true) : (s.gone (lstF nmL k)).1 = 0 ∧ Gts (s.gone (lstF nmL k)).2 (i + 1) last (setF has k false) := by
  obtain ⟨A, a1, r1, r2, r3⟩ := h.acc
  obtain ⟨f1, _⟩ := gts_find h.kept r1 r2 r3 hk
  obtain ⟨n, hn8, hA, hf⟩ := f1 hh
  obtain ⟨p1, p2, p3, p4, p5⟩ := a1.gone (nm := lstF nmL k) (by omega) h.dead (.inl (by rw [h.left]; omega)) hf
  refine ⟨p1, by rw [p3]; exact write_fine n _ (by omega) h.fine (Nat.zero_le _), p4, by rw [p5, leftBy, h.left, if_pos (by omega)], fun k' hk' hh' => ?_, updA A n none, p2.mono (by omega), fun j r' hj hA' => ?_, fun k' hk' hh' => ?_, fun j j' q q' hj hj' hq hq' e => ?_⟩
  · unfold setF at hh'
    by_cases c : k' = k
    · subst c; rw [if_pos rfl] at hh'; cases hh'
    · rw [if_neg c] at hh'; exact h.kept k' hk' hh'
  · unfold updA at hA'
    split at hA'
    · cases hA'
    · rename_i hne
      obtain ⟨k', hk', hh', rfl⟩ := r1 j r' hj hA'
      have c : k' ≠ k := fun c => by
        subst c
        exact hne (r3 j n _ _ hj hn8 hA' hA rfl)
      exact ⟨k', hk', by simp [setF, c, hh'], rfl⟩
  · unfold setF at hh'
    by_cases c : k' = k
    · subst c; rw [if_pos rfl] at hh'; cases hh'
    · rw [if_neg c] at hh'
      obtain ⟨j, hj, hA'⟩ := r2 k' hk' hh'
      have hne : j ≠ n := fun e => by
        subst e
        rw [hA'] at hA
        have e := congrArg Rec.name (Option.some.inj hA)
        rw [(h.kept k hk hh).2, (h.kept k' hk' hh').2] at e
        exact c (nm_eq (by omega) (by omega) e)
      exact ⟨j, hj, by simp [updA, hne, hA']⟩
  · unfold updA at hq hq'
    split at hq
    · cases hq
    · split at hq'
      · cases hq'
      · exact r3 j j' q q' hj hj' hq hq' e
theorem Gts.get (h : Gts s i last has) {k : Nat} (hk : k < 8) : (s.get (lstF nmL k)).isSome = has k ∧ (has k = true → ∃ d, s.get (lstF nmL k) = some d ∧ d.norm = (last k).norm) := by
  obtain ⟨A, a1, r1, r2, r3⟩ := h.acc
  obtain ⟨f1, f2⟩ := gts_find h.kept r1 r2 r3 hk
  cases hh : has k with
  | true =>
    obtain ⟨n, hn8, hA, hf⟩ := f1 hh
    obtain ⟨d, d1, d2, _⟩ := a1.get hf hA
    exact ⟨by rw [d1]; rfl, fun _ => ⟨d, d1, d2⟩⟩
  | false => exact ⟨by rw [a1.get_none (f2 hh)]; rfl, fun h => by cases h⟩
theorem Gts.names (h : Gts s i last has) : s.names.1 = (hasL has 8).length ∧ ∀ i, i < (hasL has 8).length → s.names.2 i = (hasL has 8).getD i [] := by
  obtain ⟨A, a1, r1, r2, r3⟩ := h.acc
  exact names_eq (by rw [a1.nm 8 (Nat.le_refl 8)]; exact gts_perm h.kept r1 r2 r3) (hasL_sorted has)
end
open Go.Proofs
set_option maxRecDepth 100000
-- sentinel/sentinellaw6.VaultGets
def N6 : Nat := 128
def keep6 : List Nat := [0, 1, 4, 5, 6, 7, 8, 9, 10, 11, 12, 13, 14, 15, 16, 18, 21, 24, 32, 58, 63, 69, 78, 105, 106, 121]
def res6 : List RV := [(.t 4)]
def c6 : CC :=
 (.seq (.reg [⟨(some 4), (.mov (.c (.bool false))), none, 2⟩] [])
 (.seq (.seq (.reg [⟨(some 17), (.call (.c (.fn 8 [])) []), none, 2⟩, ⟨(some 18), (.un .not (.t 17)), none, 2⟩] [])
 (.cond (.t 18)
 (.seq (.reg [⟨(some 4), (.mov (.c (.bool false))), none, 2⟩] [])
 .ret)
 .skip))
 (.seq (.seq (.reg [⟨(some 19), (.mov (.t 1)), none, 2⟩, ⟨(some 20), (.len false (.t 19)), none, 2⟩, ⟨(some 21), (.bin .gtr (.t 20) (.c (.int 60))), none, 2⟩] [])
 (.cond (.t 21)
 (.seq (.reg [⟨(some 4), (.mov (.c (.bool true))), none, 2⟩] [])
 .ret)
 .skip))
 (.seq (.reg [⟨(some 22), (.call (.c (.fn 9 [])) []), none, 2⟩, ⟨(some 5), (.mov (.t 22)), none, 2⟩] [])
 (.seq (.seq (.reg [⟨(some 23), (.mov (.t 5)), none, 2⟩, ⟨(some 24), (.eq false .ptr (.t 23) (.c .nilp)), none, 2⟩] [])
 (.cond (.t 24)
 (.seq (.reg [⟨(some 4), (.mov (.c (.bool false))), none, 2⟩] [])
 .ret)
 .skip))
 (.seq (.reg [⟨(some 6), (.alloc (.agg [(.int 0), (.str []), (.sl true 0 0 (.agg []) true), (.u32 0), (.u32 0), (.u32 0), (.u32 0), (.u32 0), (.u32 0), (.u32 0), (.u32 0), (.u32 0), (.u32 0), (.u32 0), (.u32 0), (.u32 0), (.u32 0), (.u32 0), (.u32 0), (.sl true 0 0 (.agg []) true), (.int 0), (.int 0), (.int 0), (.int 0), (.str []), (.sl true 0 0 (.agg []) true), (.u32 0), (.u32 0), (.u32 0), (.u32 0), (.u32 0), (.u32 0), (.u32 0), (.u32 0), (.u32 0), (.u32 0), (.u32 0), (.u32 0), (.u32 0), (.u32 0), (.u32 0), (.u32 0), (.sl true 0 0 (.agg []) true), (.int 0), (.int 0), (.int 0), (.int 0), (.str []), (.sl true 0 0 (.agg []) true), (.u32 0), (.u32 0), (.u32 0), (.u32 0), (.u32 0), (.u32 0), (.u32 0), (.u32 0), (.u32 0), (.u32 0), (.u32 0), (.u32 0), (.u32 0), (.u32 0), (.u32 0), (.u32 0), (.sl true 0 0 (.agg []) true), (.int 0), (.int 0), (.int 0), (.int 0), (.str []), (.sl true 0 0 (.agg []) true), (.u32 0), (.u32 0), (.u32 0), (.u32 0), (.u32 0), (.u32 0), (.u32 0), (.u32 0), (.u32 0), (.u32 0), (.u32 0), (.u32 0), (.u32 0), (.u32 0), (.u32 0), (.u32 0), (.sl true 0 0 (.agg []) true), (.int 0), (.int 0), (.int 0), (.int 0), (.str []), (.sl true 0 0 (.agg []) true), (.u32 0), (.u32 0), (.u32 0), (.u32 0), (.u32 0), (.u32 0), (.u32 0), (.u32 0), (.u32 0), (.u32 0), (.u32 0), (.u32 0), (.u32 0), (.u32 0), (.u32 0), (.u32 0), (.sl true 0 0 (.agg []) true), (.int 0), (.int 0), (.int 0), (.int 0), (.str []), (.sl true 0 0 (.agg []) true), (.u32 0), (.u32 0), (.u32 0), (.u32 0), (.u32 0), (.u32 0), (.u32 0), (.u32 0), (.u32 0), (.u32 0), (.u32 0), (.u32 0), (.u32 0), (.u32 0), (.u32 0), (.u32 0), (.sl true 0 0 (.agg []) true), (.int 0), (.int 0), (.int 0), (.int 0), (.str []), (.sl true 0 0 (.agg []) true), (.u32 0), (.u32 0), (.u32 0), (.u32 0), (.u32 0), (.u32 0), (.u32 0), (.u32 0), (.u32 0), (.u32 0), (.u32 0), (.u32 0), (.u32 0), (.u32 0), (.u32 0), (.u32 0), (.sl true 0 0 (.agg []) true), (.int 0), (.int 0), (.int 0), (.int 0), (.str []), (.sl true 0 0 (.agg []) true), (.u32 0), (.u32 0), (.u32 0), (.u32 0), (.u32 0), (.u32 0), (.u32 0), (.u32 0), (.u32 0), (.u32 0), (.u32 0), (.u32 0), (.u32 0), (.u32 0), (.u32 0), (.u32 0), (.sl true 0 0 (.agg []) true), (.int 0), (.int 0), (.int 0)])), none, 2⟩] [])
 (.seq (.reg [⟨(some 7), (.alloc (.agg [(.bool false), (.bool false), (.bool false), (.bool false), (.bool false), (.bool false), (.bool false), (.bool false)])), none, 2⟩] [])
 (.seq (.seq (.reg [⟨(some 8), (.mov (.c (.int 0))), none, 2⟩] [])
 (.block 0 (.loop (.seq (.seq (.reg [⟨(some 25), (.mov (.t 8)), none, 2⟩, ⟨(some 26), (.mov (.t 0)), none, 2⟩, ⟨(some 27), (.len false (.t 26)), none, 2⟩, ⟨(some 28), (.bin .lss (.t 25) (.t 27)), none, 2⟩, ⟨(some 29), (.mov (.t 28)), none, 2⟩, ⟨(some 30), (.mov (.t 8)), (some (29, true)), 2⟩, ⟨(some 31), (.bin .lss (.t 30) (.c (.int 40))), (some (29, true)), 2⟩, ⟨(some 32), (.pick (.t 29) (.t 31) (.c (.bool false))), none, 2⟩] [])
 (.cond (.t 32)
 .skip
 (.exit 0)))
 (.seq (.block 1 (.seq (.reg [⟨(some 35), (.mov (.t 0)), none, 2⟩, ⟨(some 36), (.mov (.t 8)), none, 2⟩, ⟨(some 37), (.iadS 1 (.t 35) (.t 36)), none, 2⟩, ⟨(some 38), (.load none (.t 37)), none, 2⟩, ⟨(some 39), (.call (.c (.fn 10 [])) [(.t 38), (.c (.int 1073741824))]), none, 2⟩, ⟨(some 9), (.mov (.t 39)), none, 2⟩] [])
 (.seq (.reg [⟨(some 40), (.mov (.t 9)), none, 2⟩, ⟨(some 41), (.mov (.t 1)), none, 2⟩, ⟨(some 42), (.call (.c (.fn 13 [])) [(.t 40), (.t 41)]), none, 2⟩, ⟨(some 10), (.alloc (.agg [(.int 0), (.str []), (.sl true 0 0 (.agg []) true), (.u32 0), (.u32 0), (.u32 0), (.u32 0), (.u32 0), (.u32 0), (.u32 0), (.u32 0), (.u32 0), (.u32 0), (.u32 0), (.u32 0), (.u32 0), (.u32 0), (.u32 0), (.u32 0), (.sl true 0 0 (.agg []) true), (.int 0), (.int 0), (.int 0)])), none, 2⟩, ⟨none, (.store (some 23) (.t 10) (.t 42)), none, 2⟩] [])
 (.seq (.reg [⟨(some 43), (.mov (.t 9)), none, 2⟩, ⟨(some 44), (.bin .quo (.t 43) (.c (.int 5))), none, 2⟩, ⟨(some 45), (.bin .rem (.t 44) (.c (.int 8))), none, 2⟩, ⟨(some 11), (.mov (.t 45)), none, 2⟩] [])
 (.seq (.reg [⟨(some 46), (.call (.c (.fn 20 [])) []), none, 2⟩, ⟨(some 47), (.mov (.t 11)), none, 2⟩, ⟨(some 48), (.iadS 1 (.t 46) (.t 47)), none, 2⟩, ⟨(some 49), (.load none (.t 48)), none, 2⟩, ⟨(some 50), (.fad 1 (.t 10)), none, 2⟩, ⟨none, (.store none (.t 50) (.t 49)), none, 2⟩] [])
 (.seq (.seq (.reg [⟨(some 51), (.mov (.t 9)), none, 2⟩, ⟨(some 52), (.bin .rem (.t 51) (.c (.int 5))), none, 2⟩, ⟨(some 53), (.eq false .sc (.t 52) (.c (.int 0))), none, 2⟩, ⟨(some 54), (.mov (.t 53)), none, 2⟩, ⟨(some 55), (.mov (.t 11)), (some (54, true)), 2⟩, ⟨(some 56), (.iadA 8 1 (.t 7) (.t 55)), (some (54, true)), 2⟩, ⟨(some 57), (.load none (.t 56)), (some (54, true)), 2⟩, ⟨(some 58), (.pick (.t 54) (.t 57) (.c (.bool false))), none, 2⟩] [])
 (.cond (.t 58)
 (.seq (.seq (.reg [⟨(some 59), (.mov (.t 5)), none, 2⟩, ⟨(some 60), (.fad 1 (.t 10)), none, 2⟩, ⟨(some 61), (.load none (.t 60)), none, 2⟩, ⟨(some 62), (.call (.c (.fn 22 [])) [(.t 59), (.t 61)]), none, 2⟩, ⟨(some 63), (.eq true .sc (.t 62) (.c (.int 0))), none, 2⟩] [])
 (.cond (.t 63)
 (.seq (.reg [⟨(some 4), (.mov (.c (.bool false))), none, 2⟩] [])
 .ret)
 .skip))
 (.seq (.reg [⟨(some 64), (.mov (.t 11)), none, 2⟩, ⟨(some 65), (.iadA 8 1 (.t 7) (.t 64)), none, 2⟩, ⟨none, (.store none (.t 65) (.c (.bool false))), none, 2⟩] [])
 (.exit 1)))
 .skip))
 (.seq (.seq (.reg [⟨(some 66), (.mov (.t 5)), none, 2⟩, ⟨(some 67), (.load (some 23) (.t 10)), none, 2⟩, ⟨(some 68), (.call (.c (.fn 12 [])) [(.t 66), (.t 67)]), none, 2⟩, ⟨(some 69), (.eq true .sc (.t 68) (.c (.int 0))), none, 2⟩] [])
 (.cond (.t 69)
 (.seq (.reg [⟨(some 4), (.mov (.c (.bool false))), none, 2⟩] [])
 .ret)
 .skip))
 (.reg [⟨(some 70), (.mov (.t 11)), none, 2⟩, ⟨(some 71), (.mov (.t 11)), none, 2⟩, ⟨(some 72), (.load (some 23) (.t 10)), none, 2⟩, ⟨(some 73), (.iadA 8 23 (.t 6) (.t 70)), none, 2⟩, ⟨none, (.store (some 23) (.t 73) (.t 72)), none, 2⟩, ⟨(some 74), (.iadA 8 1 (.t 7) (.t 71)), none, 2⟩, ⟨none, (.store none (.t 74) (.c (.bool true))), none, 2⟩] []))))))))
 (.reg [⟨(some 33), (.mov (.t 8)), none, 2⟩, ⟨(some 34), (.bin .add (.t 33) (.c (.int 1))), none, 2⟩, ⟨(some 8), (.mov (.t 34)), none, 2⟩] []))))))
 (.seq (.reg [⟨(some 75), (.mov (.t 5)), none, 2⟩, ⟨(some 76), (.call (.c (.fn 21 [])) [(.t 75)]), none, 2⟩, ⟨(some 12), (.mov (.t 76)), none, 2⟩] [])
 (.seq (.reg [⟨(some 13), (.mov (.c (.int 0))), none, 2⟩] [])
 (.seq (.seq (.reg [⟨(some 14), (.mov (.c (.int 0))), none, 2⟩] [])
 (.block 2 (.loop (.seq (.seq (.reg [⟨(some 77), (.mov (.t 14)), none, 2⟩, ⟨(some 78), (.bin .lss (.t 77) (.c (.int 8))), none, 2⟩] [])
 (.cond (.t 78)
 .skip
 (.exit 2)))
 (.seq (.block 3 (.seq (.reg [⟨(some 82), (.mov (.t 5)), none, 2⟩, ⟨(some 83), (.call (.c (.fn 20 [])) []), none, 2⟩, ⟨(some 84), (.mov (.t 14)), none, 2⟩, ⟨(some 85), (.iadS 1 (.t 83) (.t 84)), none, 2⟩, ⟨(some 86), (.load none (.t 85)), none, 2⟩, ⟨(some 87), (.call (.c (.fn 18 [])) [(.t 82), (.t 86)]), none, 2⟩, ⟨(some 81), (.mov (.t 87)), none, 2⟩, ⟨(some 88), (.ext (.t 81) 0), none, 2⟩, ⟨(some 89), (.ext (.t 81) 1), none, 2⟩, ⟨(some 15), (.alloc (.agg [(.int 0), (.str []), (.sl true 0 0 (.agg []) true), (.u32 0), (.u32 0), (.u32 0), (.u32 0), (.u32 0), (.u32 0), (.u32 0), (.u32 0), (.u32 0), (.u32 0), (.u32 0), (.u32 0), (.u32 0), (.u32 0), (.u32 0), (.u32 0), (.sl true 0 0 (.agg []) true), (.int 0), (.int 0), (.int 0)])), none, 2⟩, ⟨none, (.store (some 23) (.t 15) (.t 88)), none, 2⟩, ⟨(some 16), (.mov (.t 89)), none, 2⟩] [])
 (.seq (.seq (.reg [⟨(some 90), (.mov (.t 16)), none, 0⟩, ⟨(some 91), (.mov (.t 14)), none, 0⟩, ⟨(some 92), (.iadA 8 1 (.t 7) (.t 91)), none, 0⟩, ⟨(some 93), (.load none (.t 92)), none, 1⟩, ⟨(some 94), (.eq true .bool (.t 90) (.t 93)), none, 0⟩, ⟨(some 95), (.mov (.t 94)), none, 0⟩, ⟨(some 96), (.mov (.t 16)), (some (95, false)), 0⟩, ⟨(some 97), (.mov (.t 96)), (some (95, false)), 0⟩, ⟨(some 98), (.load (some 23) (.t 15)), (some (97, true)), 1⟩, ⟨(some 99), (.mov (.t 14)), (some (97, true)), 0⟩, ⟨(some 100), (.iadA 8 23 (.t 6) (.t 99)), (some (97, true)), 0⟩, ⟨(some 101), (.load (some 23) (.t 100)), (some (97, true)), 1⟩, ⟨(some 102), (.call (.c (.fn 19 [])) [(.t 98), (.t 101)]), (some (97, true)), 0⟩, ⟨(some 103), (.un .not (.t 102)), (some (97, true)), 0⟩, ⟨(some 104), (.pick (.t 97) (.t 103) (.c (.bool false))), (some (95, false)), 0⟩, ⟨(some 105), (.pick (.t 95) (.c (.bool true)) (.t 104)), none, 0⟩] [])
 (.cond (.t 105)
 (.seq (.reg [⟨(some 4), (.mov (.c (.bool false))), none, 2⟩] [])
 .ret)
 .skip))
 (.seq (.reg [⟨(some 106), (.mov (.t 16)), none, 2⟩] [])
 (.cond (.t 106)
 (.seq (.seq (.reg [⟨(some 107), (.mov (.t 13)), none, 0⟩, ⟨(some 108), (.mov (.t 12)), none, 0⟩, ⟨(some 109), (.len false (.t 108)), none, 0⟩, ⟨(some 110), (.bin .geq (.t 107) (.t 109)), none, 0⟩, ⟨(some 111), (.mov (.t 110)), none, 0⟩, ⟨(some 112), (.mov (.t 12)), (some (111, false)), 0⟩, ⟨(some 113), (.mov (.t 13)), (some (111, false)), 0⟩, ⟨(some 114), (.iadS 1 (.t 112) (.t 113)), (some (111, false)), 1⟩, ⟨(some 115), (.load none (.t 114)), (some (111, false)), 1⟩, ⟨(some 116), (.call (.c (.fn 20 [])) []), (some (111, false)), 0⟩, ⟨(some 117), (.mov (.t 14)), (some (111, false)), 0⟩, ⟨(some 118), (.iadS 1 (.t 116) (.t 117)), (some (111, false)), 1⟩, ⟨(some 119), (.load none (.t 118)), (some (111, false)), 1⟩, ⟨(some 120), (.eq true .sc (.t 115) (.t 119)), (some (111, false)), 0⟩, ⟨(some 121), (.pick (.t 111) (.c (.bool true)) (.t 120)), none, 0⟩] [])
 (.cond (.t 121)
 (.seq (.reg [⟨(some 4), (.mov (.c (.bool false))), none, 2⟩] [])
 .ret)
 .skip))
 (.reg [⟨(some 122), (.mov (.t 13)), none, 2⟩, ⟨(some 123), (.bin .add (.t 122) (.c (.int 1))), none, 2⟩, ⟨(some 13), (.mov (.t 123)), none, 2⟩] []))
 .skip)))))
 (.reg [⟨(some 79), (.mov (.t 14)), none, 2⟩, ⟨(some 80), (.bin .add (.t 79) (.c (.int 1))), none, 2⟩, ⟨(some 14), (.mov (.t 80)), none, 2⟩] []))))))
 (.seq (.reg [⟨(some 124), (.mov (.t 13)), none, 2⟩, ⟨(some 125), (.mov (.t 12)), none, 2⟩, ⟨(some 126), (.len false (.t 125)), none, 2⟩, ⟨(some 127), (.eq false .sc (.t 124) (.t 126)), none, 2⟩, ⟨(some 4), (.mov (.t 127)), none, 2⟩] [])
 .ret))))))))))))
theorem o6 : FnOK Try.prog 6 N6 res6 c6 := ⟨_, _, Try.f6.results.toList, [], pures, Try.func6, show _ = some (Try.f6.body.getD .skip) by kernel_rfl, (Array.toArray_toList).symm, by kernel_rfl, by kernel_rfl, by kernel_rfl, by kernel_rfl, follows, callFunc_enter Try.func6 (by kernel_rfl) (by kernel_rfl)⟩
open Go.Proofs
set_option maxRecDepth 100000

theorem hasL_get (has : Nat → Bool) {k : Nat} (hk : has k = true) : ∀ n, k < n → (hasL has n).getD (hasL has k).length [] = lstF nmL k ∧ (hasL has k).length < (hasL has n).length
  | 0, h => absurd h (by omega)
  | n + 1, h => by
    by_cases c : k = n
    · subst c
      rw [hasL, if_pos hk, List.length_append]
      refine ⟨?_, by simp⟩
      rw [List.getD_eq_getElem?_getD, List.getElem?_append_right (Nat.le_refl _), Nat.sub_self]
      rfl
    · obtain ⟨h1, h2⟩ := hasL_get has hk n (by omega)
      rw [hasL]
      split
      · rw [List.length_append]
        refine ⟨?_, by omega⟩
        rw [List.getD_eq_getElem?_getD, List.getElem?_append_left h2, ← List.getD_eq_getElem?_getD]
        exact h1
      · exact ⟨h1, h2⟩
def lastC (f : Nat → Rec) : List AV := lapp (f 0).C (lapp (f 1).C (lapp (f 2).C (lapp (f 3).C (lapp (f 4).C (lapp (f 5).C (lapp (f 6).C (f 7).C))))))
def hasC (p : Nat → Bool) : List AV := [.bool (p 0), .bool (p 1), .bool (p 2), .bool (p 3), .bool (p 4), .bool (p 5), .bool (p 6), .bool (p 7)]
def L6a (ns : IntL) (b : By) : LI where
  X := Nat × Vt × (Nat → Rec) × (Nat → Bool)
  x0 := (0, vtN, fun _ => Rec.zero, fun _ => false)
  pre x := x.1 ≤ 40 ∧ Gts x.2.1 x.1 x.2.2.1 x.2.2.2
  inv x := ([(0, ns.A), (1, b.A), (5, .ptr 1 0 0), (6, .ptr 2 0 0), (7, .ptr 3 0 0), (8, .int x.1)], [x.2.1.o2, x.2.1.o1 0, ⟨0, .agg (lastC x.2.2.1), false⟩, ⟨0, .agg (hasC x.2.2.2), false⟩])
  mu x := 40 - x.1
  ren := true
def L6b (x : Vt × (Nat → Rec) × (Nat → Bool)) : LI where
  X := Nat
  x0 := 0
  pre k := k ≤ 8
  inv k := ([(5, .ptr 1 0 0), (6, .ptr 2 0 0), (7, .ptr 3 0 0), (12, txA x.1.names), (13, .int (hasL x.2.2 k).length), (14, .int k)], [x.1.o2, x.1.o1 0, ⟨0, .agg (lastC x.2.1), false⟩, ⟨0, .agg (hasC x.2.2), false⟩])
  mu k := 8 - k
  ren := true
def rG (n : Int) (b : By) (k : Nat) : Rec := { recV n b with name := lstF nmL k }
theorem rG_good (n : Int) (b : By) (k : Nat) (hk : k < 10) : (rG n b k).good := rNm_good n b k hk
theorem gts_new : Gts vtN 0 (fun _ => Rec.zero) (fun _ => false) :=
  ⟨vtN_fine, vtN_alive.1, vtN_alive.2, fun _ _ h => (by cases h), _, vtN_acc, fun _ _ _ h => (by cases h), fun _ _ h => (by cases h), fun _ _ _ _ _ _ h => (by cases h)⟩
open Go.Proofs
set_option maxRecDepth 100000

theorem RUN.loopE {Γ : G} {c : CC} {k : KT} {X : List (Nat × KT)} {r : KT} {s : SL} {h : List AO} {k0 : Nat} {inv : Nat → SL → List AO → LI} (hk0 : Γ.k0 = k0) (hinv : Γ.inv = inv) {id : Nat} {k1 : KT} {X' : List (Nat × KT)} {a : CC} (hc : c = .loop a) (hX : X = (id, k1) :: X') {α : Type} [Nonempty α] {Lf : α → LI} {P : SL → List AO → α → Prop} (hL : inv id s h = Lf (Classical.epsilon (P s h)))
    (hp : ∀ x, (Lf x).peel = false) (hf : ∀ x, (Lf x).fin = none) (hP : ∃ x, P s h x)
    (h0 : ∀ x, P s h x → (fits (Lf x).ren k0 s h ((Lf x).inv (Lf x).x0) ∧ (Lf x).pre (Lf x).x0) ∧ ∀ y, (Lf x).pre y → ∀ κ : KT, κ = loopK k0 (Lf x) y → RUN Γ a κ X r ((Lf x).inv y).1 ((Lf x).inv y).2) : RUN Γ c k X r s h := by
  obtain ⟨⟨h1, h2⟩, h3⟩ := h0 _ (Classical.epsilon_spec hP)
  exact RUN.loop hk0 hinv hc hX hL (hp _) (hf _) h1 h2 h3
abbrev GX : Type := Vt × (Nat → Rec) × (Nat → Bool)
def P6 (s : SL) (h : List AO) (x : GX) : Prop := h = [x.1.o2, x.1.o1 0, ⟨0, .agg (lastC x.2.1), false⟩, ⟨0, .agg (hasC x.2.2), false⟩] ∧ look s 12 = txA x.1.names ∧ ∃ i, Gts x.1 i x.2.1 x.2.2
theorem fork_bool {p v : Bool} {F : Bool → Prop} (h : ∀ w : Bool, (w = true → p = true ∧ v = true) → F w) : fork p (F v) (F false) :=
  fork_intro (fun hp => h v fun e => ⟨hp, e⟩) (fun _ => h false fun e => by cases e)
theorem fits6 {s : SL} {h : List AO} {x : GX} (hx : P6 s h x) (h5 : look s 5 = .ptr 1 0 0) (h6 : look s 6 = .ptr 2 0 0) (h7 : look s 7 = .ptr 3 0 0) (h13 : look s 13 = .int 0) (h14 : look s 14 = .int 0) : fits true 0 s h ((L6b x).inv (L6b x).x0) := by
  obtain ⟨rfl, e2, _⟩ := hx
  refine ⟨[some 0, some 1, some 2, some 3], rfl, ?_, by first | rfl | trivial, ?_⟩
  · dsimp only [L6b, sameS]
    rw [h5, h6, h7, e2, h13, h14]
    (try dsimp only [nodupN, inN, nget, sameS, sameH, sameO, SameL, look, lookB, hget, hlen, emptyC, Nat.beq, Nat.ble]) <;> and_intros <;> first | trivial | rfl | exact .inl rfl | exact .refl rfl | exact .inl ⟨rfl, rfl⟩ | exact .ms rfl rfl rfl rfl rfl | exact .ptr rfl rfl rfl rfl rfl | exact .any | exact .nil | exact .nilm | exact .bf ⟨.ptr rfl rfl rfl rfl rfl, trivial⟩ | exact .fn ⟨.ptr rfl rfl rfl rfl rfl, trivial⟩ | exact .inr ⟨rfl, rfl⟩ | exact SameC.agg ⟨.refl rfl, .tell (byD_tell _ ⟨true, []⟩ rfl) rfl, trivial⟩ | exact .tell (tellC_rw0 _ _) rfl | exact .tell (tellC_snoc rfl) rfl | exact SameC.agg (by (try dsimp only [SameL]); and_intros <;> first | trivial | exact .refl rfl | exact .ms rfl rfl rfl rfl rfl | exact .ptr rfl rfl rfl rfl rfl | exact .nil | exact .nilm | exact .any)
  · dsimp only [L6b, Vt.o1, Vt.o2, vR, sameH, sameO, nget, hget, Nat.ble]
    and_intros <;> first | trivial | rfl | exact .inl rfl | exact .inl ⟨rfl, rfl⟩ | exact SameC.agg ⟨.ms rfl rfl rfl rfl rfl, .refl rfl, .refl rfl, trivial⟩
instance : Nonempty GX := ⟨(vtN, fun _ => Rec.zero, fun _ => false)⟩
set_option maxHeartbeats 8000000 in
theorem fn6 (ns : IntL) (b : By) : ACalls Try.prog 6 [ns.A, b.A] [] (fun a h => a = .bool true ∧ h = []) := by
  refine o6.runS [(8, e8), (9, e9), (10, e10), (12, e12), (13, e13), (18, e18), (19, e19), (20, e20), (21, e21), (22, e22)] keep6 0 (fun i s h => li2 (L6a ns b) (L6b (Classical.epsilon (P6 s h))) i) (own := false) (kn := 0)
    (.cons ok8 o8.enter (.cons ok9 o9.enter (.cons ok10 o10.enter (.cons ok12 o12.enter (.cons ok13 o13.enter (.cons ok18 o18.enter (.cons ok19 o19.enter (.cons ok20 o20.enter (.cons ok21 o21.enter (.cons ok22 o22.enter .nil)))))))))) (Nat.le_of_ble_eq_true rfl) rfl (Nat.le_refl _) (fun Γ hsp hkp hk0 hinv κ hκ => ?_)
  dsimp only [keep6] at hkp
  dsimp only [IntL.A]
  (repeat (first | ((first | refine RUN.sreg hsp hkp rfl (fun κ__ h__ => ?_) | refine RUN.reg hsp hkp rfl (fun κ__ h__ => ?_)); dsimp only [e8, e9, e10, e12, e13, e18, e19, e20, e21, e22, evV, vtD, rwD, recD, intlD, allB, not, evL, consG, consO, valG, valO, nilG, nilO, noMore, vtG, vtO, id, rhoC, hsetL, happ, happO, nodupC, inC, appN, Vt.o1, Vt.o2, vR, toCe_vf, By.eta, Ce.eta, Vt.eta, Rec.eta, Num.eta, Rec.C, sfn, txA, go_sem, Nat.succ, Int.reduceToNat, Nat.reduceAdd, Nat.reduceMul, Nat.reduceSub, Int.reduceLT, Int.reduceLE, Int.reduceNeg, UInt64.reduceToNat, UInt32.reduceToNat, UInt8.reduceToNat]; subst h__) | refine RUN.block rfl ?_ | refine RUN.skip rfl ?_ | refine RUN.ret rfl ?_ | (refine RUN.exit rfl ?_; dsimp only [xfind, xfB, Nat.beq]) | (refine RUN.seq rfl (fun κ__ h__ => ?_); subst h__) | (refine RUN.cond rfl (p := true) rfl (fun _ => ?_) (fun h__ => by cases h__)) | (refine RUN.cond rfl (p := false) rfl (fun h__ => by cases h__) (fun _ => ?_)) | refine ⟨by first | trivial | omega | (and_intros <;> first | trivial | rfl | omega) | rfl, ?_⟩))
  refine RUN.cond rfl rfl (fun hc => ?_) (fun hc => ?_)
  · (repeat (first | ((first | refine RUN.sreg hsp hkp rfl (fun κ__ h__ => ?_) | refine RUN.reg hsp hkp rfl (fun κ__ h__ => ?_)); dsimp only [e8, e9, e10, e12, e13, e18, e19, e20, e21, e22, evV, vtD, rwD, recD, intlD, allB, not, evL, consG, consO, valG, valO, nilG, nilO, noMore, vtG, vtO, id, rhoC, hsetL, happ, happO, nodupC, inC, appN, Vt.o1, Vt.o2, vR, toCe_vf, By.eta, Ce.eta, Vt.eta, Rec.eta, Num.eta, Rec.C, sfn, txA, go_sem, Nat.succ, Int.reduceToNat, Nat.reduceAdd, Nat.reduceMul, Nat.reduceSub, Int.reduceLT, Int.reduceLE, Int.reduceNeg, UInt64.reduceToNat, UInt32.reduceToNat, UInt8.reduceToNat]; subst h__) | refine RUN.block rfl ?_ | refine RUN.skip rfl ?_ | refine RUN.ret rfl ?_ | (refine RUN.exit rfl ?_; dsimp only [xfind, xfB, Nat.beq]) | (refine RUN.seq rfl (fun κ__ h__ => ?_); subst h__) | (refine RUN.cond rfl (p := true) rfl (fun _ => ?_) (fun h__ => by cases h__)) | (refine RUN.cond rfl (p := false) rfl (fun h__ => by cases h__) (fun _ => ?_)) | refine ⟨by first | trivial | omega | (and_intros <;> first | trivial | rfl | omega) | rfl, ?_⟩))
    rw [hκ]; exact leaf_true rfl
  have hb : b.l.length ≤ 60 := by have := of_decide_eq_false hc; omega
  (repeat (first | ((first | refine RUN.sreg hsp hkp rfl (fun κ__ h__ => ?_) | refine RUN.reg hsp hkp rfl (fun κ__ h__ => ?_)); dsimp only [e8, e9, e10, e12, e13, e18, e19, e20, e21, e22, evV, vtD, rwD, recD, intlD, allB, not, evL, consG, consO, valG, valO, nilG, nilO, noMore, vtG, vtO, id, rhoC, hsetL, happ, happO, nodupC, inC, appN, Vt.o1, Vt.o2, vR, toCe_vf, By.eta, Ce.eta, Vt.eta, Rec.eta, Num.eta, Rec.C, sfn, txA, go_sem, Nat.succ, Int.reduceToNat, Nat.reduceAdd, Nat.reduceMul, Nat.reduceSub, Int.reduceLT, Int.reduceLE, Int.reduceNeg, UInt64.reduceToNat, UInt32.reduceToNat, UInt8.reduceToNat]; subst h__) | refine RUN.block rfl ?_ | refine RUN.skip rfl ?_ | refine RUN.ret rfl ?_ | (refine RUN.exit rfl ?_; dsimp only [xfind, xfB, Nat.beq]) | (refine RUN.seq rfl (fun κ__ h__ => ?_); subst h__) | (refine RUN.cond rfl (p := true) rfl (fun _ => ?_) (fun h__ => by cases h__)) | (refine RUN.cond rfl (p := false) rfl (fun h__ => by cases h__) (fun _ => ?_)) | refine ⟨by first | trivial | omega | (and_intros <;> first | trivial | rfl | omega) | rfl, ?_⟩))
  refine RUN.loop hk0 hinv rfl rfl (L := L6a ns b) rfl rfl rfl ?_ ?_ (fun x hx κ1 h1 => ?_)
  · dsimp only [L6a, fits, Vt.o1, Vt.o2, vR, IntL.A, lastC, hasC, Rec.C, Rec.zero, lapp, By.no, By.A, Num.zero]
    refine ⟨[some 0, some 1, some 2, some 3], rfl, ?_, by first | rfl | trivial, ?_⟩
    · (try dsimp only [nodupN, inN, nget, sameS, sameH, sameO, SameL, look, lookB, hget, hlen, emptyC, Nat.beq, Nat.ble]) <;> and_intros <;> first | trivial | rfl | exact .inl rfl | exact .refl rfl | exact .inl ⟨rfl, rfl⟩ | exact .ms rfl rfl rfl rfl rfl | exact .ptr rfl rfl rfl rfl rfl | exact .any | exact .nil | exact .nilm | exact .bf ⟨.ptr rfl rfl rfl rfl rfl, trivial⟩ | exact .fn ⟨.ptr rfl rfl rfl rfl rfl, trivial⟩ | exact .inr ⟨rfl, rfl⟩ | exact SameC.agg ⟨.refl rfl, .tell (byD_tell _ ⟨true, []⟩ rfl) rfl, trivial⟩ | exact .tell (tellC_rw0 _ _) rfl | exact .tell (tellC_snoc rfl) rfl | exact SameC.agg (by (try dsimp only [SameL]); and_intros <;> first | trivial | exact .refl rfl | exact .ms rfl rfl rfl rfl rfl | exact .ptr rfl rfl rfl rfl rfl | exact .nil | exact .nilm | exact .any)
    · dsimp only [sameH, sameO, nget, hget, SameL, Nat.ble]
      and_intros <;> first | trivial | exact .refl rfl | rfl | exact .inl rfl | refine SameC.agg ?_
      all_goals dsimp only [SameL]
      all_goals and_intros <;> first | trivial | exact .refl rfl | exact .ms rfl rfl rfl rfl rfl | exact .tell (byD_tell _ ⟨true, []⟩ rfl) rfl
  · exact ⟨Nat.zero_le _, gts_new⟩
  obtain ⟨i, s, last, has⟩ := x
  obtain ⟨hi, hG⟩ := hx
  dsimp only at hi hG
  dsimp only [L6a, Vt.o1, Vt.o2, vR, IntL.A, lastC, hasC, Rec.C, lapp]
  (repeat (first | ((first | refine RUN.sreg hsp hkp rfl (fun κ__ h__ => ?_) | refine RUN.reg hsp hkp rfl (fun κ__ h__ => ?_)); dsimp only [e8, e9, e10, e12, e13, e18, e19, e20, e21, e22, evV, vtD, rwD, recD, intlD, allB, not, evL, consG, consO, valG, valO, nilG, nilO, noMore, vtG, vtO, id, rhoC, hsetL, happ, happO, nodupC, inC, appN, Vt.o1, Vt.o2, vR, toCe_vf, By.eta, Ce.eta, Vt.eta, Rec.eta, Num.eta, Rec.C, sfn, txA, go_sem, Nat.succ, Int.reduceToNat, Nat.reduceAdd, Nat.reduceMul, Nat.reduceSub, Int.reduceLT, Int.reduceLE, Int.reduceNeg, UInt64.reduceToNat, UInt32.reduceToNat, UInt8.reduceToNat]; subst h__) | refine RUN.block rfl ?_ | refine RUN.skip rfl ?_ | refine RUN.ret rfl ?_ | (refine RUN.exit rfl ?_; dsimp only [xfind, xfB, Nat.beq]) | (refine RUN.seq rfl (fun κ__ h__ => ?_); subst h__) | (refine RUN.cond rfl (p := true) rfl (fun _ => ?_) (fun h__ => by cases h__)) | (refine RUN.cond rfl (p := false) rfl (fun h__ => by cases h__) (fun _ => ?_)) | refine ⟨by first | trivial | omega | (and_intros <;> first | trivial | rfl | omega) | rfl, ?_⟩))
  generalize hv : decide ((i : Int) < 40) = v
  apply fork_bool (v := v)
  intro w hw
  refine RUN.cond rfl rfl (fun hc => ?_) (fun hc => ?_)
  · obtain ⟨hl, h40⟩ := hw hc
    subst hv
    have hl : i < ns.l.length := by have := of_decide_eq_true hl; omega
    have h40 : i < 40 := by have := of_decide_eq_true h40; omega
    (repeat (first | ((first | refine RUN.sreg hsp hkp rfl (fun κ__ h__ => ?_) | refine RUN.reg hsp hkp rfl (fun κ__ h__ => ?_)); dsimp only [e8, e9, e10, e12, e13, e18, e19, e20, e21, e22, evV, vtD, rwD, recD, intlD, allB, not, evL, consG, consO, valG, valO, nilG, nilO, noMore, vtG, vtO, id, rhoC, hsetL, happ, happO, nodupC, inC, appN, Vt.o1, Vt.o2, vR, toCe_vf, By.eta, Ce.eta, Vt.eta, Rec.eta, Num.eta, Rec.C, sfn, txA, go_sem, Nat.succ, Int.reduceToNat, Nat.reduceAdd, Nat.reduceMul, Nat.reduceSub, Int.reduceLT, Int.reduceLE, Int.reduceNeg, UInt64.reduceToNat, UInt32.reduceToNat, UInt8.reduceToNat]; subst h__) | refine RUN.block rfl ?_ | refine RUN.skip rfl ?_ | refine RUN.ret rfl ?_ | (refine RUN.exit rfl ?_; dsimp only [xfind, xfB, Nat.beq]) | (refine RUN.seq rfl (fun κ__ h__ => ?_); subst h__) | (refine RUN.cond rfl (p := true) rfl (fun _ => ?_) (fun h__ => by cases h__)) | (refine RUN.cond rfl (p := false) rfl (fun h__ => by cases h__) (fun _ => ?_)) | refine ⟨by first | trivial | omega | (and_intros <;> first | trivial | rfl | omega) | rfl, ?_⟩))
    refine ⟨Nat.zero_lt_one, ⟨by decide, by decide⟩, ?_⟩
    have hx := within1_in (a := ns.l.getD (i : Int).toNat 0) (b := 1073741824) (by omega)
    have hx : 0 ≤ within1 ([ns.l.getD (i : Int).toNat 0].getD 0 0) 1073741824 ∧ within1 ([ns.l.getD (i : Int).toNat 0].getD 0 0) 1073741824 < 1073741824 := hx
    (repeat (first | ((first | refine RUN.sreg hsp hkp rfl (fun κ__ h__ => ?_) | refine RUN.reg hsp hkp rfl (fun κ__ h__ => ?_)); dsimp only [e8, e9, e10, e12, e13, e18, e19, e20, e21, e22, evV, vtD, rwD, recD, intlD, allB, not, evL, consG, consO, valG, valO, nilG, nilO, noMore, vtG, vtO, id, rhoC, hsetL, happ, happO, nodupC, inC, appN, Vt.o1, Vt.o2, vR, toCe_vf, By.eta, Ce.eta, Vt.eta, Rec.eta, Num.eta, Rec.C, sfn, txA, go_sem, Nat.succ, Int.reduceToNat, Nat.reduceAdd, Nat.reduceMul, Nat.reduceSub, Int.reduceLT, Int.reduceLE, Int.reduceNeg, UInt64.reduceToNat, UInt32.reduceToNat, UInt8.reduceToNat]; subst h__) | refine RUN.block rfl ?_ | refine RUN.skip rfl ?_ | refine RUN.ret rfl ?_ | (refine RUN.exit rfl ?_; dsimp only [xfind, xfB, Nat.beq]) | (refine RUN.seq rfl (fun κ__ h__ => ?_); subst h__) | (refine RUN.cond rfl (p := true) rfl (fun _ => ?_) (fun h__ => by cases h__)) | (refine RUN.cond rfl (p := false) rfl (fun h__ => by cases h__) (fun _ => ?_)) | refine ⟨by first | trivial | omega | (and_intros <;> first | trivial | rfl | omega) | rfl, ?_⟩))
    generalize within1 ([ns.l.getD (i : Int).toNat 0].getD 0 0) 1073741824 = n at hx ⊢
    have hK : 0 ≤ (w64 (n.tdiv 5)).tmod 8 ∧ (w64 (n.tdiv 5)).tmod 8 < 8 := by
      have e : 0 ≤ n.tdiv 5 := Int.tdiv_nonneg hx.1 (by decide)
      have e2 : n.tdiv 5 ≤ n := Int.tdiv_le_self _ hx.1
      rw [w64_in (by omega)]
      exact ⟨Int.tmod_nonneg _ e, Int.tmod_lt_of_pos _ (by decide)⟩
    generalize (w64 (n.tdiv 5)).tmod 8 = K at hK ⊢
    refine ⟨by omega, ?_⟩
    have hP := hG.put (by omega) (k := K.toNat) (by omega) (rG_good n b K.toNat (by omega)) rfl
    have hQ := hG.gone (by omega) (k := K.toNat) (by omega)
    have ho : (rG n b K.toNat).outW.l.length ≤ 1000000 := Nat.le_trans (out_len (rG_good n b K.toNat (by omega)).ok) (by decide)
    have hl1 : s.left ≤ 9223372036854775807 := by rw [hG.left]; omega
    have wk : w64 ((i : Int) + 1) = ((i + 1 : Nat) : Int) := by rw [w64_in (by omega)]; omega
    obtain ⟨⟨e, s'⟩, hp⟩ : ∃ x, s.put (rG n b K.toNat) = x := ⟨_, rfl⟩
    rw [hp] at hP
    obtain ⟨p1, hP⟩ := hP
    dsimp only at p1 hP
    subst p1
    obtain ⟨⟨e, s''⟩, hq⟩ : ∃ x, s.gone (lstF nmL K.toNat) = x := ⟨_, rfl⟩
    rw [hq] at hQ
    dsimp only at hQ
    have h8 : K = 0 ∨ K = 1 ∨ K = 2 ∨ K = 3 ∨ K = 4 ∨ K = 5 ∨ K = 6 ∨ K = 7 := by omega
    rcases h8 with rfl | rfl | rfl | rfl | rfl | rfl | rfl | rfl
    all_goals
      simp only [Int.reduceToNat] at hP hQ ho hp hq
      (repeat (first | ((first | refine RUN.sreg hsp hkp rfl (fun κ__ h__ => ?_) | refine RUN.reg hsp hkp rfl (fun κ__ h__ => ?_)); dsimp only [e8, e9, e10, e12, e13, e18, e19, e20, e21, e22, evV, vtD, rwD, recD, intlD, allB, not, evL, consG, consO, valG, valO, nilG, nilO, noMore, vtG, vtO, id, rhoC, hsetL, happ, happO, nodupC, inC, appN, Vt.o1, Vt.o2, vR, toCe_vf, By.eta, Ce.eta, Vt.eta, Rec.eta, Num.eta, Rec.C, sfn, txA, go_sem, Nat.succ, Int.reduceToNat, Nat.reduceAdd, Nat.reduceMul, Nat.reduceSub, Int.reduceLT, Int.reduceLE, Int.reduceNeg, UInt64.reduceToNat, UInt32.reduceToNat, UInt8.reduceToNat]; subst h__) | refine RUN.block rfl ?_ | refine RUN.skip rfl ?_ | refine RUN.ret rfl ?_ | (refine RUN.exit rfl ?_; dsimp only [xfind, xfB, Nat.beq]) | (refine RUN.seq rfl (fun κ__ h__ => ?_); subst h__) | (refine RUN.cond rfl (p := true) rfl (fun _ => ?_) (fun h__ => by cases h__)) | (refine RUN.cond rfl (p := false) rfl (fun h__ => by cases h__) (fun _ => ?_)) | refine ⟨by first | trivial | omega | (and_intros <;> first | trivial | rfl | omega) | rfl, ?_⟩))
      refine fork_intro (fun _ => ⟨by omega, ?_⟩) (fun _ => ?_)
      · refine RUN.cond rfl rfl (fun hh => ?_) (fun hh => ?_)
        · obtain ⟨q1, q2⟩ := hQ hh
          subst q1
          (repeat (first | ((first | refine RUN.sreg hsp hkp rfl (fun κ__ h__ => ?_) | refine RUN.reg hsp hkp rfl (fun κ__ h__ => ?_)); dsimp only [e8, e9, e10, e12, e13, e18, e19, e20, e21, e22, evV, vtD, rwD, recD, intlD, allB, not, evL, consG, consO, valG, valO, nilG, nilO, noMore, vtG, vtO, id, rhoC, hsetL, happ, happO, nodupC, inC, appN, Vt.o1, Vt.o2, vR, toCe_vf, By.eta, Ce.eta, Vt.eta, Rec.eta, Num.eta, Rec.C, sfn, txA, go_sem, Nat.succ, Int.reduceToNat, Nat.reduceAdd, Nat.reduceMul, Nat.reduceSub, Int.reduceLT, Int.reduceLE, Int.reduceNeg, UInt64.reduceToNat, UInt32.reduceToNat, UInt8.reduceToNat]; subst h__) | refine RUN.block rfl ?_ | refine RUN.skip rfl ?_ | refine RUN.ret rfl ?_ | (refine RUN.exit rfl ?_; dsimp only [xfind, xfB, Nat.beq]) | (refine RUN.seq rfl (fun κ__ h__ => ?_); subst h__) | (refine RUN.cond rfl (p := true) rfl (fun _ => ?_) (fun h__ => by cases h__)) | (refine RUN.cond rfl (p := false) rfl (fun h__ => by cases h__) (fun _ => ?_)) | refine ⟨by first | trivial | omega | (and_intros <;> first | trivial | rfl | omega) | rfl, ?_⟩))
          rw [hq]
          (repeat (first | ((first | refine RUN.sreg hsp hkp rfl (fun κ__ h__ => ?_) | refine RUN.reg hsp hkp rfl (fun κ__ h__ => ?_)); dsimp only [e8, e9, e10, e12, e13, e18, e19, e20, e21, e22, evV, vtD, rwD, recD, intlD, allB, not, evL, consG, consO, valG, valO, nilG, nilO, noMore, vtG, vtO, id, rhoC, hsetL, happ, happO, nodupC, inC, appN, Vt.o1, Vt.o2, vR, toCe_vf, By.eta, Ce.eta, Vt.eta, Rec.eta, Num.eta, Rec.C, sfn, txA, go_sem, Nat.succ, Int.reduceToNat, Nat.reduceAdd, Nat.reduceMul, Nat.reduceSub, Int.reduceLT, Int.reduceLE, Int.reduceNeg, UInt64.reduceToNat, UInt32.reduceToNat, UInt8.reduceToNat]; subst h__) | refine RUN.block rfl ?_ | refine RUN.skip rfl ?_ | refine RUN.ret rfl ?_ | (refine RUN.exit rfl ?_; dsimp only [xfind, xfB, Nat.beq]) | (refine RUN.seq rfl (fun κ__ h__ => ?_); subst h__) | (refine RUN.cond rfl (p := true) rfl (fun _ => ?_) (fun h__ => by cases h__)) | (refine RUN.cond rfl (p := false) rfl (fun h__ => by cases h__) (fun _ => ?_)) | refine ⟨by first | trivial | omega | (and_intros <;> first | trivial | rfl | omega) | rfl, ?_⟩))
          rw [wk]
          subst h1
          dsimp only [loopK, fits, L6a, Vt.o1, Vt.o2, vR, IntL.A, lastC, hasC, Rec.C, lapp]
          refine ⟨(i + 1, s'', _, _), ⟨by omega, q2⟩, by omega, [some 0, some 1, some 2, some 3], rfl, ?_, by first | rfl | trivial, ?_⟩
          · (try dsimp only [nodupN, inN, nget, sameS, sameH, sameO, SameL, look, lookB, hget, hlen, emptyC, Nat.beq, Nat.ble]) <;> and_intros <;> first | trivial | rfl | exact .inl rfl | exact .refl rfl | exact .inl ⟨rfl, rfl⟩ | exact .ms rfl rfl rfl rfl rfl | exact .ptr rfl rfl rfl rfl rfl | exact .any | exact .nil | exact .nilm | exact .bf ⟨.ptr rfl rfl rfl rfl rfl, trivial⟩ | exact .fn ⟨.ptr rfl rfl rfl rfl rfl, trivial⟩ | exact .inr ⟨rfl, rfl⟩ | exact SameC.agg ⟨.refl rfl, .tell (byD_tell _ ⟨true, []⟩ rfl) rfl, trivial⟩ | exact .tell (tellC_rw0 _ _) rfl | exact .tell (tellC_snoc rfl) rfl | exact SameC.agg (by (try dsimp only [SameL]); and_intros <;> first | trivial | exact .refl rfl | exact .ms rfl rfl rfl rfl rfl | exact .ptr rfl rfl rfl rfl rfl | exact .nil | exact .nilm | exact .any)
          · dsimp only [sameH, sameO, nget, hget, Nat.ble]
            and_intros <;> first | trivial | exact .refl rfl | rfl | exact .inl rfl | exact .inl ⟨rfl, rfl⟩ | exact SameC.agg ⟨.ms rfl rfl rfl rfl rfl, .refl rfl, .refl rfl, trivial⟩
        · (repeat (first | ((first | refine RUN.sreg hsp hkp rfl (fun κ__ h__ => ?_) | refine RUN.reg hsp hkp rfl (fun κ__ h__ => ?_)); dsimp only [e8, e9, e10, e12, e13, e18, e19, e20, e21, e22, evV, vtD, rwD, recD, intlD, allB, not, evL, consG, consO, valG, valO, nilG, nilO, noMore, vtG, vtO, id, rhoC, hsetL, happ, happO, nodupC, inC, appN, Vt.o1, Vt.o2, vR, toCe_vf, By.eta, Ce.eta, Vt.eta, Rec.eta, Num.eta, Rec.C, sfn, txA, go_sem, Nat.succ, Int.reduceToNat, Nat.reduceAdd, Nat.reduceMul, Nat.reduceSub, Int.reduceLT, Int.reduceLE, Int.reduceNeg, UInt64.reduceToNat, UInt32.reduceToNat, UInt8.reduceToNat]; subst h__) | refine RUN.block rfl ?_ | refine RUN.skip rfl ?_ | refine RUN.ret rfl ?_ | (refine RUN.exit rfl ?_; dsimp only [xfind, xfB, Nat.beq]) | (refine RUN.seq rfl (fun κ__ h__ => ?_); subst h__) | (refine RUN.cond rfl (p := true) rfl (fun _ => ?_) (fun h__ => by cases h__)) | (refine RUN.cond rfl (p := false) rfl (fun h__ => by cases h__) (fun _ => ?_)) | refine ⟨by first | trivial | omega | (and_intros <;> first | trivial | rfl | omega) | rfl, ?_⟩))
          rw [show s.put (Rec.mk _ _ _ _ _ _ _ _ _) = (0, s') from hp]
          (repeat (first | ((first | refine RUN.sreg hsp hkp rfl (fun κ__ h__ => ?_) | refine RUN.reg hsp hkp rfl (fun κ__ h__ => ?_)); dsimp only [e8, e9, e10, e12, e13, e18, e19, e20, e21, e22, evV, vtD, rwD, recD, intlD, allB, not, evL, consG, consO, valG, valO, nilG, nilO, noMore, vtG, vtO, id, rhoC, hsetL, happ, happO, nodupC, inC, appN, Vt.o1, Vt.o2, vR, toCe_vf, By.eta, Ce.eta, Vt.eta, Rec.eta, Num.eta, Rec.C, sfn, txA, go_sem, Nat.succ, Int.reduceToNat, Nat.reduceAdd, Nat.reduceMul, Nat.reduceSub, Int.reduceLT, Int.reduceLE, Int.reduceNeg, UInt64.reduceToNat, UInt32.reduceToNat, UInt8.reduceToNat]; subst h__) | refine RUN.block rfl ?_ | refine RUN.skip rfl ?_ | refine RUN.ret rfl ?_ | (refine RUN.exit rfl ?_; dsimp only [xfind, xfB, Nat.beq]) | (refine RUN.seq rfl (fun κ__ h__ => ?_); subst h__) | (refine RUN.cond rfl (p := true) rfl (fun _ => ?_) (fun h__ => by cases h__)) | (refine RUN.cond rfl (p := false) rfl (fun h__ => by cases h__) (fun _ => ?_)) | refine ⟨by first | trivial | omega | (and_intros <;> first | trivial | rfl | omega) | rfl, ?_⟩))
          rw [wk]
          subst h1
          dsimp only [loopK, fits, L6a, Vt.o1, Vt.o2, vR, IntL.A, lastC, hasC, Rec.C, lapp]
          refine ⟨(i + 1, s', _, _), ⟨by omega, hP⟩, by omega, [some 0, some 1, some 2, some 3], rfl, ?_, by first | rfl | trivial, ?_⟩
          · (try dsimp only [nodupN, inN, nget, sameS, sameH, sameO, SameL, look, lookB, hget, hlen, emptyC, Nat.beq, Nat.ble]) <;> and_intros <;> first | trivial | rfl | exact .inl rfl | exact .refl rfl | exact .inl ⟨rfl, rfl⟩ | exact .ms rfl rfl rfl rfl rfl | exact .ptr rfl rfl rfl rfl rfl | exact .any | exact .nil | exact .nilm | exact .bf ⟨.ptr rfl rfl rfl rfl rfl, trivial⟩ | exact .fn ⟨.ptr rfl rfl rfl rfl rfl, trivial⟩ | exact .inr ⟨rfl, rfl⟩ | exact SameC.agg ⟨.refl rfl, .tell (byD_tell _ ⟨true, []⟩ rfl) rfl, trivial⟩ | exact .tell (tellC_rw0 _ _) rfl | exact .tell (tellC_snoc rfl) rfl | exact SameC.agg (by (try dsimp only [SameL]); and_intros <;> first | trivial | exact .refl rfl | exact .ms rfl rfl rfl rfl rfl | exact .ptr rfl rfl rfl rfl rfl | exact .nil | exact .nilm | exact .any)
          · dsimp only [sameH, sameO, nget, hget, Nat.ble]
            and_intros <;> first | trivial | exact .refl rfl | rfl | exact .inl rfl | exact .inl ⟨rfl, rfl⟩ | exact SameC.agg ⟨.ms rfl rfl rfl rfl rfl, .refl rfl, .refl rfl, trivial⟩
      · (repeat (first | ((first | refine RUN.sreg hsp hkp rfl (fun κ__ h__ => ?_) | refine RUN.reg hsp hkp rfl (fun κ__ h__ => ?_)); dsimp only [e8, e9, e10, e12, e13, e18, e19, e20, e21, e22, evV, vtD, rwD, recD, intlD, allB, not, evL, consG, consO, valG, valO, nilG, nilO, noMore, vtG, vtO, id, rhoC, hsetL, happ, happO, nodupC, inC, appN, Vt.o1, Vt.o2, vR, toCe_vf, By.eta, Ce.eta, Vt.eta, Rec.eta, Num.eta, Rec.C, sfn, txA, go_sem, Nat.succ, Int.reduceToNat, Nat.reduceAdd, Nat.reduceMul, Nat.reduceSub, Int.reduceLT, Int.reduceLE, Int.reduceNeg, UInt64.reduceToNat, UInt32.reduceToNat, UInt8.reduceToNat]; subst h__) | refine RUN.block rfl ?_ | refine RUN.skip rfl ?_ | refine RUN.ret rfl ?_ | (refine RUN.exit rfl ?_; dsimp only [xfind, xfB, Nat.beq]) | (refine RUN.seq rfl (fun κ__ h__ => ?_); subst h__) | (refine RUN.cond rfl (p := true) rfl (fun _ => ?_) (fun h__ => by cases h__)) | (refine RUN.cond rfl (p := false) rfl (fun h__ => by cases h__) (fun _ => ?_)) | refine ⟨by first | trivial | omega | (and_intros <;> first | trivial | rfl | omega) | rfl, ?_⟩))
        rw [show s.put (Rec.mk _ _ _ _ _ _ _ _ _) = (0, s') from hp]
        (repeat (first | ((first | refine RUN.sreg hsp hkp rfl (fun κ__ h__ => ?_) | refine RUN.reg hsp hkp rfl (fun κ__ h__ => ?_)); dsimp only [e8, e9, e10, e12, e13, e18, e19, e20, e21, e22, evV, vtD, rwD, recD, intlD, allB, not, evL, consG, consO, valG, valO, nilG, nilO, noMore, vtG, vtO, id, rhoC, hsetL, happ, happO, nodupC, inC, appN, Vt.o1, Vt.o2, vR, toCe_vf, By.eta, Ce.eta, Vt.eta, Rec.eta, Num.eta, Rec.C, sfn, txA, go_sem, Nat.succ, Int.reduceToNat, Nat.reduceAdd, Nat.reduceMul, Nat.reduceSub, Int.reduceLT, Int.reduceLE, Int.reduceNeg, UInt64.reduceToNat, UInt32.reduceToNat, UInt8.reduceToNat]; subst h__) | refine RUN.block rfl ?_ | refine RUN.skip rfl ?_ | refine RUN.ret rfl ?_ | (refine RUN.exit rfl ?_; dsimp only [xfind, xfB, Nat.beq]) | (refine RUN.seq rfl (fun κ__ h__ => ?_); subst h__) | (refine RUN.cond rfl (p := true) rfl (fun _ => ?_) (fun h__ => by cases h__)) | (refine RUN.cond rfl (p := false) rfl (fun h__ => by cases h__) (fun _ => ?_)) | refine ⟨by first | trivial | omega | (and_intros <;> first | trivial | rfl | omega) | rfl, ?_⟩))
        rw [wk]
        subst h1
        dsimp only [loopK, fits, L6a, Vt.o1, Vt.o2, vR, IntL.A, lastC, hasC, Rec.C, lapp]
        refine ⟨(i + 1, s', _, _), ⟨by omega, hP⟩, by omega, [some 0, some 1, some 2, some 3], rfl, ?_, by first | rfl | trivial, ?_⟩
        · (try dsimp only [nodupN, inN, nget, sameS, sameH, sameO, SameL, look, lookB, hget, hlen, emptyC, Nat.beq, Nat.ble]) <;> and_intros <;> first | trivial | rfl | exact .inl rfl | exact .refl rfl | exact .inl ⟨rfl, rfl⟩ | exact .ms rfl rfl rfl rfl rfl | exact .ptr rfl rfl rfl rfl rfl | exact .any | exact .nil | exact .nilm | exact .bf ⟨.ptr rfl rfl rfl rfl rfl, trivial⟩ | exact .fn ⟨.ptr rfl rfl rfl rfl rfl, trivial⟩ | exact .inr ⟨rfl, rfl⟩ | exact SameC.agg ⟨.refl rfl, .tell (byD_tell _ ⟨true, []⟩ rfl) rfl, trivial⟩ | exact .tell (tellC_rw0 _ _) rfl | exact .tell (tellC_snoc rfl) rfl | exact SameC.agg (by (try dsimp only [SameL]); and_intros <;> first | trivial | exact .refl rfl | exact .ms rfl rfl rfl rfl rfl | exact .ptr rfl rfl rfl rfl rfl | exact .nil | exact .nilm | exact .any)
        · dsimp only [sameH, sameO, nget, hget, Nat.ble]
          and_intros <;> first | trivial | exact .refl rfl | rfl | exact .inl rfl | exact .inl ⟨rfl, rfl⟩ | exact SameC.agg ⟨.ms rfl rfl rfl rfl rfl, .refl rfl, .refl rfl, trivial⟩
  · (repeat (first | ((first | refine RUN.sreg hsp hkp rfl (fun κ__ h__ => ?_) | refine RUN.reg hsp hkp rfl (fun κ__ h__ => ?_)); dsimp only [e8, e9, e10, e12, e13, e18, e19, e20, e21, e22, evV, vtD, rwD, recD, intlD, allB, not, evL, consG, consO, valG, valO, nilG, nilO, noMore, vtG, vtO, id, rhoC, hsetL, happ, happO, nodupC, inC, appN, Vt.o1, Vt.o2, vR, toCe_vf, By.eta, Ce.eta, Vt.eta, Rec.eta, Num.eta, Rec.C, sfn, txA, go_sem, Nat.succ, Int.reduceToNat, Nat.reduceAdd, Nat.reduceMul, Nat.reduceSub, Int.reduceLT, Int.reduceLE, Int.reduceNeg, UInt64.reduceToNat, UInt32.reduceToNat, UInt8.reduceToNat]; subst h__) | refine RUN.block rfl ?_ | refine RUN.skip rfl ?_ | refine RUN.ret rfl ?_ | (refine RUN.exit rfl ?_; dsimp only [xfind, xfB, Nat.beq]) | (refine RUN.seq rfl (fun κ__ h__ => ?_); subst h__) | (refine RUN.cond rfl (p := true) rfl (fun _ => ?_) (fun h__ => by cases h__)) | (refine RUN.cond rfl (p := false) rfl (fun h__ => by cases h__) (fun _ => ?_)) | refine ⟨by first | trivial | omega | (and_intros <;> first | trivial | rfl | omega) | rfl, ?_⟩))
    refine RUN.loopE hk0 hinv rfl rfl (Lf := L6b) (P := P6) rfl (fun _ => rfl) (fun _ => rfl) ⟨(s, last, has), rfl, rfl, i, hG⟩ (fun x hx => ⟨⟨fits6 hx rfl rfl rfl rfl rfl, Nat.zero_le _⟩, fun (k : Nat) (hk : k ≤ 8) κ1 h1 => ?_⟩)
    obtain ⟨s, last, has⟩ := x
    obtain ⟨_, _, i, hG⟩ := hx
    dsimp only at hG
    obtain ⟨hn1, hn2⟩ := hG.names
    have hl1 := hasL_len has 8
    dsimp only [L6b, Vt.o1, Vt.o2, vR, lastC, hasC, Rec.C, lapp, txA]
    (repeat (first | ((first | refine RUN.sreg hsp hkp rfl (fun κ__ h__ => ?_) | refine RUN.reg hsp hkp rfl (fun κ__ h__ => ?_)); dsimp only [e8, e9, e10, e12, e13, e18, e19, e20, e21, e22, evV, vtD, rwD, recD, intlD, allB, not, evL, consG, consO, valG, valO, nilG, nilO, noMore, vtG, vtO, id, rhoC, hsetL, happ, happO, nodupC, inC, appN, Vt.o1, Vt.o2, vR, toCe_vf, By.eta, Ce.eta, Vt.eta, Rec.eta, Num.eta, Rec.C, sfn, txA, go_sem, Nat.succ, Int.reduceToNat, Nat.reduceAdd, Nat.reduceMul, Nat.reduceSub, Int.reduceLT, Int.reduceLE, Int.reduceNeg, UInt64.reduceToNat, UInt32.reduceToNat, UInt8.reduceToNat]; subst h__) | refine RUN.block rfl ?_ | refine RUN.skip rfl ?_ | refine RUN.ret rfl ?_ | (refine RUN.exit rfl ?_; dsimp only [xfind, xfB, Nat.beq]) | (refine RUN.seq rfl (fun κ__ h__ => ?_); subst h__) | (refine RUN.cond rfl (p := true) rfl (fun _ => ?_) (fun h__ => by cases h__)) | (refine RUN.cond rfl (p := false) rfl (fun h__ => by cases h__) (fun _ => ?_)) | refine ⟨by first | trivial | omega | (and_intros <;> first | trivial | rfl | omega) | rfl, ?_⟩))
    refine RUN.cond rfl rfl (fun h2 => ?_) (fun h2 => ?_)
    · have h2 : k < 8 := by have := of_decide_eq_true h2; omega
      obtain ⟨hg1, hg2⟩ := hG.get (k := k) h2
      have hh := hasL_get has (k := k)
      obtain ⟨K, hK⟩ : ∃ K : Int, (k : Int) = K := ⟨_, rfl⟩
      obtain rfl : k = K.toNat := by omega
      have wk : w64 (K + 1) = ((K.toNat + 1 : Nat) : Int) := by rw [w64_in (by omega)]; omega
      rw [hK]
      have h8 : K = 0 ∨ K = 1 ∨ K = 2 ∨ K = 3 ∨ K = 4 ∨ K = 5 ∨ K = 6 ∨ K = 7 := by omega
      have hT : has K.toNat = true → w64 (((hasL has K.toNat).length : Int) + 1) = ((hasL has (K.toNat + 1)).length : Int) ∧ s.names.2 (hasL has K.toNat).length = lstF nmL K.toNat ∧ (hasL has K.toNat).length < s.names.1 := fun h => by
        obtain ⟨a, c⟩ := hh h 8 h2
        refine ⟨?_, by rw [hn2 _ c, a], by omega⟩
        rw [w64_in (by omega), hasL, if_pos h, List.length_append]; rfl
      have hF : has K.toNat = false → (hasL has (K.toNat + 1)).length = (hasL has K.toNat).length := fun h => by rw [hasL, h]; rfl
      have hb8 : K.toNat + 1 ≤ 8 := by omega
      have hm : 8 - (K.toNat + 1) < 8 - K.toNat := by omega
      rcases h8 with rfl | rfl | rfl | rfl | rfl | rfl | rfl | rfl
      all_goals
        simp only [Int.reduceToNat] at hg1 hg2 hT hF hb8 hm h1 wk ⊢
        (repeat (first | ((first | refine RUN.sreg hsp hkp rfl (fun κ__ h__ => ?_) | refine RUN.reg hsp hkp rfl (fun κ__ h__ => ?_)); dsimp only [e8, e9, e10, e12, e13, e18, e19, e20, e21, e22, evV, vtD, rwD, recD, intlD, allB, not, evL, consG, consO, valG, valO, nilG, nilO, noMore, vtG, vtO, id, rhoC, hsetL, happ, happO, nodupC, inC, appN, Vt.o1, Vt.o2, vR, toCe_vf, By.eta, Ce.eta, Vt.eta, Rec.eta, Num.eta, Rec.C, sfn, txA, go_sem, Nat.succ, Int.reduceToNat, Nat.reduceAdd, Nat.reduceMul, Nat.reduceSub, Int.reduceLT, Int.reduceLE, Int.reduceNeg, UInt64.reduceToNat, UInt32.reduceToNat, UInt8.reduceToNat]; subst h__) | refine RUN.block rfl ?_ | refine RUN.skip rfl ?_ | refine RUN.ret rfl ?_ | (refine RUN.exit rfl ?_; dsimp only [xfind, xfB, Nat.beq]) | (refine RUN.seq rfl (fun κ__ h__ => ?_); subst h__) | (refine RUN.cond rfl (p := true) rfl (fun _ => ?_) (fun h__ => by cases h__)) | (refine RUN.cond rfl (p := false) rfl (fun h__ => by cases h__) (fun _ => ?_)) | refine ⟨by first | trivial | omega | (and_intros <;> first | trivial | rfl | omega) | rfl, ?_⟩))
        rw [hg1]
        refine fork_intro (fun h => absurd h (by simp)) (fun _ => fork_intro (fun h => ?_) (fun h => ?_))
        · obtain ⟨d, d1, d2⟩ := hg2 h
          obtain ⟨t1, t2, t3⟩ := hT h
          rw [d1]
          dsimp only [orZR]
          (repeat (first | ((first | refine RUN.sreg hsp hkp rfl (fun κ__ h__ => ?_) | refine RUN.reg hsp hkp rfl (fun κ__ h__ => ?_)); dsimp only [e8, e9, e10, e12, e13, e18, e19, e20, e21, e22, evV, vtD, rwD, recD, intlD, allB, not, evL, consG, consO, valG, valO, nilG, nilO, noMore, vtG, vtO, id, rhoC, hsetL, happ, happO, nodupC, inC, appN, Vt.o1, Vt.o2, vR, toCe_vf, By.eta, Ce.eta, Vt.eta, Rec.eta, Num.eta, Rec.C, sfn, txA, go_sem, Nat.succ, Int.reduceToNat, Nat.reduceAdd, Nat.reduceMul, Nat.reduceSub, Int.reduceLT, Int.reduceLE, Int.reduceNeg, UInt64.reduceToNat, UInt32.reduceToNat, UInt8.reduceToNat]; subst h__) | refine RUN.block rfl ?_ | refine RUN.skip rfl ?_ | refine RUN.ret rfl ?_ | (refine RUN.exit rfl ?_; dsimp only [xfind, xfB, Nat.beq]) | (refine RUN.seq rfl (fun κ__ h__ => ?_); subst h__) | (refine RUN.cond rfl (p := true) rfl (fun _ => ?_) (fun h__ => by cases h__)) | (refine RUN.cond rfl (p := false) rfl (fun h__ => by cases h__) (fun _ => ?_)) | refine ⟨by first | trivial | omega | (and_intros <;> first | trivial | rfl | omega) | rfl, ?_⟩))
          rw [(rec_same_norm _ _).2 d2]
          (repeat (first | ((first | refine RUN.sreg hsp hkp rfl (fun κ__ h__ => ?_) | refine RUN.reg hsp hkp rfl (fun κ__ h__ => ?_)); dsimp only [e8, e9, e10, e12, e13, e18, e19, e20, e21, e22, evV, vtD, rwD, recD, intlD, allB, not, evL, consG, consO, valG, valO, nilG, nilO, noMore, vtG, vtO, id, rhoC, hsetL, happ, happO, nodupC, inC, appN, Vt.o1, Vt.o2, vR, toCe_vf, By.eta, Ce.eta, Vt.eta, Rec.eta, Num.eta, Rec.C, sfn, txA, go_sem, Nat.succ, Int.reduceToNat, Nat.reduceAdd, Nat.reduceMul, Nat.reduceSub, Int.reduceLT, Int.reduceLE, Int.reduceNeg, UInt64.reduceToNat, UInt32.reduceToNat, UInt8.reduceToNat]; subst h__) | refine RUN.block rfl ?_ | refine RUN.skip rfl ?_ | refine RUN.ret rfl ?_ | (refine RUN.exit rfl ?_; dsimp only [xfind, xfB, Nat.beq]) | (refine RUN.seq rfl (fun κ__ h__ => ?_); subst h__) | (refine RUN.cond rfl (p := true) rfl (fun _ => ?_) (fun h__ => by cases h__)) | (refine RUN.cond rfl (p := false) rfl (fun h__ => by cases h__) (fun _ => ?_)) | refine ⟨by first | trivial | omega | (and_intros <;> first | trivial | rfl | omega) | rfl, ?_⟩))
          refine RUN.cond rfl rfl (fun _ => ?_) (fun h' => by rw [h] at h'; cases h')
          (repeat (first | ((first | refine RUN.sreg hsp hkp rfl (fun κ__ h__ => ?_) | refine RUN.reg hsp hkp rfl (fun κ__ h__ => ?_)); dsimp only [e8, e9, e10, e12, e13, e18, e19, e20, e21, e22, evV, vtD, rwD, recD, intlD, allB, not, evL, consG, consO, valG, valO, nilG, nilO, noMore, vtG, vtO, id, rhoC, hsetL, happ, happO, nodupC, inC, appN, Vt.o1, Vt.o2, vR, toCe_vf, By.eta, Ce.eta, Vt.eta, Rec.eta, Num.eta, Rec.C, sfn, txA, go_sem, Nat.succ, Int.reduceToNat, Nat.reduceAdd, Nat.reduceMul, Nat.reduceSub, Int.reduceLT, Int.reduceLE, Int.reduceNeg, UInt64.reduceToNat, UInt32.reduceToNat, UInt8.reduceToNat]; subst h__) | refine RUN.block rfl ?_ | refine RUN.skip rfl ?_ | refine RUN.ret rfl ?_ | (refine RUN.exit rfl ?_; dsimp only [xfind, xfB, Nat.beq]) | (refine RUN.seq rfl (fun κ__ h__ => ?_); subst h__) | (refine RUN.cond rfl (p := true) rfl (fun _ => ?_) (fun h__ => by cases h__)) | (refine RUN.cond rfl (p := false) rfl (fun h__ => by cases h__) (fun _ => ?_)) | refine ⟨by first | trivial | omega | (and_intros <;> first | trivial | rfl | omega) | rfl, ?_⟩))
          refine fork_intro (fun h' => absurd (of_decide_eq_true h') (by omega)) (fun _ => ?_)
          refine ⟨⟨by omega, by omega⟩, ?_⟩
          (repeat (first | ((first | refine RUN.sreg hsp hkp rfl (fun κ__ h__ => ?_) | refine RUN.reg hsp hkp rfl (fun κ__ h__ => ?_)); dsimp only [e8, e9, e10, e12, e13, e18, e19, e20, e21, e22, evV, vtD, rwD, recD, intlD, allB, not, evL, consG, consO, valG, valO, nilG, nilO, noMore, vtG, vtO, id, rhoC, hsetL, happ, happO, nodupC, inC, appN, Vt.o1, Vt.o2, vR, toCe_vf, By.eta, Ce.eta, Vt.eta, Rec.eta, Num.eta, Rec.C, sfn, txA, go_sem, Nat.succ, Int.reduceToNat, Nat.reduceAdd, Nat.reduceMul, Nat.reduceSub, Int.reduceLT, Int.reduceLE, Int.reduceNeg, UInt64.reduceToNat, UInt32.reduceToNat, UInt8.reduceToNat]; subst h__) | refine RUN.block rfl ?_ | refine RUN.skip rfl ?_ | refine RUN.ret rfl ?_ | (refine RUN.exit rfl ?_; dsimp only [xfind, xfB, Nat.beq]) | (refine RUN.seq rfl (fun κ__ h__ => ?_); subst h__) | (refine RUN.cond rfl (p := true) rfl (fun _ => ?_) (fun h__ => by cases h__)) | (refine RUN.cond rfl (p := false) rfl (fun h__ => by cases h__) (fun _ => ?_)) | refine ⟨by first | trivial | omega | (and_intros <;> first | trivial | rfl | omega) | rfl, ?_⟩))
          rw [Int.toNat_natCast, t2, beq_self_eq_true]
          (repeat (first | ((first | refine RUN.sreg hsp hkp rfl (fun κ__ h__ => ?_) | refine RUN.reg hsp hkp rfl (fun κ__ h__ => ?_)); dsimp only [e8, e9, e10, e12, e13, e18, e19, e20, e21, e22, evV, vtD, rwD, recD, intlD, allB, not, evL, consG, consO, valG, valO, nilG, nilO, noMore, vtG, vtO, id, rhoC, hsetL, happ, happO, nodupC, inC, appN, Vt.o1, Vt.o2, vR, toCe_vf, By.eta, Ce.eta, Vt.eta, Rec.eta, Num.eta, Rec.C, sfn, txA, go_sem, Nat.succ, Int.reduceToNat, Nat.reduceAdd, Nat.reduceMul, Nat.reduceSub, Int.reduceLT, Int.reduceLE, Int.reduceNeg, UInt64.reduceToNat, UInt32.reduceToNat, UInt8.reduceToNat]; subst h__) | refine RUN.block rfl ?_ | refine RUN.skip rfl ?_ | refine RUN.ret rfl ?_ | (refine RUN.exit rfl ?_; dsimp only [xfind, xfB, Nat.beq]) | (refine RUN.seq rfl (fun κ__ h__ => ?_); subst h__) | (refine RUN.cond rfl (p := true) rfl (fun _ => ?_) (fun h__ => by cases h__)) | (refine RUN.cond rfl (p := false) rfl (fun h__ => by cases h__) (fun _ => ?_)) | refine ⟨by first | trivial | omega | (and_intros <;> first | trivial | rfl | omega) | rfl, ?_⟩))
          rw [t1]
          rw [wk]
          subst h1
          dsimp only [loopK, fits, L6b, Vt.o1, Vt.o2, vR, lastC, hasC, Rec.C, lapp, txA]
          refine ⟨_, hb8, hm, [some 0, some 1, some 2, some 3], rfl, ?_, by first | rfl | trivial, ?_⟩
          · (try dsimp only [nodupN, inN, nget, sameS, sameH, sameO, SameL, look, lookB, hget, hlen, emptyC, Nat.beq, Nat.ble]) <;> and_intros <;> first | trivial | rfl | exact .inl rfl | exact .refl rfl | exact .inl ⟨rfl, rfl⟩ | exact .ms rfl rfl rfl rfl rfl | exact .ptr rfl rfl rfl rfl rfl | exact .any | exact .nil | exact .nilm | exact .bf ⟨.ptr rfl rfl rfl rfl rfl, trivial⟩ | exact .fn ⟨.ptr rfl rfl rfl rfl rfl, trivial⟩ | exact .inr ⟨rfl, rfl⟩ | exact SameC.agg ⟨.refl rfl, .tell (byD_tell _ ⟨true, []⟩ rfl) rfl, trivial⟩ | exact .tell (tellC_rw0 _ _) rfl | exact .tell (tellC_snoc rfl) rfl | exact SameC.agg (by (try dsimp only [SameL]); and_intros <;> first | trivial | exact .refl rfl | exact .ms rfl rfl rfl rfl rfl | exact .ptr rfl rfl rfl rfl rfl | exact .nil | exact .nilm | exact .any)
          · dsimp only [sameH, sameO, nget, hget, Nat.ble]
            and_intros <;> first | trivial | exact .refl rfl | rfl | exact .inl rfl | exact .inl ⟨rfl, rfl⟩ | exact SameC.agg ⟨.ms rfl rfl rfl rfl rfl, .refl rfl, .refl rfl, trivial⟩
        · (repeat (first | ((first | refine RUN.sreg hsp hkp rfl (fun κ__ h__ => ?_) | refine RUN.reg hsp hkp rfl (fun κ__ h__ => ?_)); dsimp only [e8, e9, e10, e12, e13, e18, e19, e20, e21, e22, evV, vtD, rwD, recD, intlD, allB, not, evL, consG, consO, valG, valO, nilG, nilO, noMore, vtG, vtO, id, rhoC, hsetL, happ, happO, nodupC, inC, appN, Vt.o1, Vt.o2, vR, toCe_vf, By.eta, Ce.eta, Vt.eta, Rec.eta, Num.eta, Rec.C, sfn, txA, go_sem, Nat.succ, Int.reduceToNat, Nat.reduceAdd, Nat.reduceMul, Nat.reduceSub, Int.reduceLT, Int.reduceLE, Int.reduceNeg, UInt64.reduceToNat, UInt32.reduceToNat, UInt8.reduceToNat]; subst h__) | refine RUN.block rfl ?_ | refine RUN.skip rfl ?_ | refine RUN.ret rfl ?_ | (refine RUN.exit rfl ?_; dsimp only [xfind, xfB, Nat.beq]) | (refine RUN.seq rfl (fun κ__ h__ => ?_); subst h__) | (refine RUN.cond rfl (p := true) rfl (fun _ => ?_) (fun h__ => by cases h__)) | (refine RUN.cond rfl (p := false) rfl (fun h__ => by cases h__) (fun _ => ?_)) | refine ⟨by first | trivial | omega | (and_intros <;> first | trivial | rfl | omega) | rfl, ?_⟩))
          refine RUN.cond rfl rfl (fun h' => by rw [h] at h'; cases h') (fun _ => ?_)
          (repeat (first | ((first | refine RUN.sreg hsp hkp rfl (fun κ__ h__ => ?_) | refine RUN.reg hsp hkp rfl (fun κ__ h__ => ?_)); dsimp only [e8, e9, e10, e12, e13, e18, e19, e20, e21, e22, evV, vtD, rwD, recD, intlD, allB, not, evL, consG, consO, valG, valO, nilG, nilO, noMore, vtG, vtO, id, rhoC, hsetL, happ, happO, nodupC, inC, appN, Vt.o1, Vt.o2, vR, toCe_vf, By.eta, Ce.eta, Vt.eta, Rec.eta, Num.eta, Rec.C, sfn, txA, go_sem, Nat.succ, Int.reduceToNat, Nat.reduceAdd, Nat.reduceMul, Nat.reduceSub, Int.reduceLT, Int.reduceLE, Int.reduceNeg, UInt64.reduceToNat, UInt32.reduceToNat, UInt8.reduceToNat]; subst h__) | refine RUN.block rfl ?_ | refine RUN.skip rfl ?_ | refine RUN.ret rfl ?_ | (refine RUN.exit rfl ?_; dsimp only [xfind, xfB, Nat.beq]) | (refine RUN.seq rfl (fun κ__ h__ => ?_); subst h__) | (refine RUN.cond rfl (p := true) rfl (fun _ => ?_) (fun h__ => by cases h__)) | (refine RUN.cond rfl (p := false) rfl (fun h__ => by cases h__) (fun _ => ?_)) | refine ⟨by first | trivial | omega | (and_intros <;> first | trivial | rfl | omega) | rfl, ?_⟩))
          rw [wk]
          subst h1
          dsimp only [loopK, fits, L6b, Vt.o1, Vt.o2, vR, lastC, hasC, Rec.C, lapp, txA]
          refine ⟨_, hb8, hm, [some 0, some 1, some 2, some 3], rfl, ?_, by first | rfl | trivial, ?_⟩
          · rw [hF h]
            (try dsimp only [nodupN, inN, nget, sameS, sameH, sameO, SameL, look, lookB, hget, hlen, emptyC, Nat.beq, Nat.ble]) <;> and_intros <;> first | trivial | rfl | exact .inl rfl | exact .refl rfl | exact .inl ⟨rfl, rfl⟩ | exact .ms rfl rfl rfl rfl rfl | exact .ptr rfl rfl rfl rfl rfl | exact .any | exact .nil | exact .nilm | exact .bf ⟨.ptr rfl rfl rfl rfl rfl, trivial⟩ | exact .fn ⟨.ptr rfl rfl rfl rfl rfl, trivial⟩ | exact .inr ⟨rfl, rfl⟩ | exact SameC.agg ⟨.refl rfl, .tell (byD_tell _ ⟨true, []⟩ rfl) rfl, trivial⟩ | exact .tell (tellC_rw0 _ _) rfl | exact .tell (tellC_snoc rfl) rfl | exact SameC.agg (by (try dsimp only [SameL]); and_intros <;> first | trivial | exact .refl rfl | exact .ms rfl rfl rfl rfl rfl | exact .ptr rfl rfl rfl rfl rfl | exact .nil | exact .nilm | exact .any)
          · dsimp only [sameH, sameO, nget, hget, Nat.ble]
            and_intros <;> first | trivial | exact .refl rfl | rfl | exact .inl rfl | exact .inl ⟨rfl, rfl⟩ | exact SameC.agg ⟨.ms rfl rfl rfl rfl rfl, .refl rfl, .refl rfl, trivial⟩
    · have h2 : k = 8 := by have := of_decide_eq_false h2; omega
      subst h2
      (repeat (first | ((first | refine RUN.sreg hsp hkp rfl (fun κ__ h__ => ?_) | refine RUN.reg hsp hkp rfl (fun κ__ h__ => ?_)); dsimp only [e8, e9, e10, e12, e13, e18, e19, e20, e21, e22, evV, vtD, rwD, recD, intlD, allB, not, evL, consG, consO, valG, valO, nilG, nilO, noMore, vtG, vtO, id, rhoC, hsetL, happ, happO, nodupC, inC, appN, Vt.o1, Vt.o2, vR, toCe_vf, By.eta, Ce.eta, Vt.eta, Rec.eta, Num.eta, Rec.C, sfn, txA, go_sem, Nat.succ, Int.reduceToNat, Nat.reduceAdd, Nat.reduceMul, Nat.reduceSub, Int.reduceLT, Int.reduceLE, Int.reduceNeg, UInt64.reduceToNat, UInt32.reduceToNat, UInt8.reduceToNat]; subst h__) | refine RUN.block rfl ?_ | refine RUN.skip rfl ?_ | refine RUN.ret rfl ?_ | (refine RUN.exit rfl ?_; dsimp only [xfind, xfB, Nat.beq]) | (refine RUN.seq rfl (fun κ__ h__ => ?_); subst h__) | (refine RUN.cond rfl (p := true) rfl (fun _ => ?_) (fun h__ => by cases h__)) | (refine RUN.cond rfl (p := false) rfl (fun h__ => by cases h__) (fun _ => ?_)) | refine ⟨by first | trivial | omega | (and_intros <;> first | trivial | rfl | omega) | rfl, ?_⟩))
      rw [hκ]
      exact leaf_true (by show AV.bool (((hasL has 8).length : Int) == (s.names.1 : Int)) = _; rw [hn1, beq_self_eq_true])
end Go.Abs
