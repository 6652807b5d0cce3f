/-
  Own work. Conditions: none. A message ahead of other bytes is read.
-/
import Derived.Test.YtmgefdndbcgoiaaWireC
set_option linter.unusedVariables false
set_option linter.unusedSimpArgs false
set_option linter.unnecessarySimpa false
namespace Go.Abs
set_option maxRecDepth 100000

theorem out_size (m : Msg) (h : m.isW = true) (t : List UInt8) (z : Bool) (n : Int) : (Sw.mk ⟨z, m.outW.l ++ t⟩ n false).size = m.outW.l.length ∧ 3 ≤ m.outW.l.length ∧ m.outW.l.length ≤ 202 := by
  have hl : (m.encW 11).length ≤ 200 := by
    unfold Msg.isW at h; simp only [Bool.and_eq_true, decide_eq_true_eq] at h; exact h.2
  have hp := m.encW_pos 11
  have ex : m.outW.l = UInt8.ofInt (((m.encW 11).length : Int) / 2 ^ 8) :: UInt8.ofInt ((m.encW 11).length : Int) :: m.encW 11 := by
    rw [Msg.outW, h]; rfl
  have b0 := u8_ofInt (((m.encW 11).length : Int) / 2 ^ 8)
  have b1 := u8_ofInt ((m.encW 11).length : Int)
  have e : (Sw.mk ⟨z, m.outW.l ++ t⟩ n false).size = 2 + ((UInt8.ofInt (((m.encW 11).length : Int) / 2 ^ 8)).toNat * 256 + (UInt8.ofInt ((m.encW 11).length : Int)).toNat) := by
    rw [ex]; rfl
  have el : m.outW.l.length = 2 + (m.encW 11).length := by rw [ex]; simp only [List.length_cons]; omega
  rw [e, el]; omega
/-- A message ahead of other bytes is the next one. -/
theorem first_of (m : Msg) (h : m.isW = true) (hc : m.channel < 9223372036854775808) (t : List UInt8) (z : Bool) (n : Int) : ∃ d, (Sw.mk ⟨z, m.outW.l ++ t⟩ n false).told decW = some d ∧ d.norm = m.norm ∧ (Sw.mk ⟨z, m.outW.l ++ t⟩ n false).nextW decW = ⟨⟨z, t⟩, n, false⟩ := by
  obtain ⟨s1, s2, s3⟩ := out_size m h t z n
  obtain ⟨d, e1, e2⟩ := decW_back m z h hc
  have hw : (Sw.mk ⟨z, m.outW.l ++ t⟩ n false).way = 2 := Sw.way2 rfl (by show 2 ≤ (m.outW.l ++ t).length; rw [List.length_append]; omega) (by rw [s1]; omega) (by rw [s1]; show ¬ (m.outW.l ++ t).length < _; rw [List.length_append]; omega)
  have hh : (Sw.mk ⟨z, m.outW.l ++ t⟩ n false).head = ⟨z, m.outW.l⟩ := by
    rw [Sw.head, s1]; show By.mk z ((m.outW.l ++ t).take m.outW.l.length) = _; simp
  have hr : (Sw.mk ⟨z, m.outW.l ++ t⟩ n false).rest = ⟨z, t⟩ := by
    rw [Sw.rest, s1]; show By.mk z ((m.outW.l ++ t).drop m.outW.l.length) = _; simp
  refine ⟨d, ?_, e2, ?_⟩
  · rw [Sw.told, if_pos hw, hh, e1]
  · rw [Sw.nextW, if_neg (by rw [hw]; decide), if_neg (by rw [hw]; decide), hh, hr, e1]; rfl
/-- Nothing is left: no message, and it is not bad. -/
theorem none_of (z : Bool) (n : Int) (bad : Bool) : (Sw.mk ⟨z, []⟩ n bad).told decW = none ∧ (Sw.mk ⟨z, []⟩ n bad).nextW decW = ⟨⟨z, []⟩, n, bad⟩ := by
  have hw : (Sw.mk ⟨z, []⟩ n bad).way = 0 := Sw.way0 (.inr (by show 0 < 2; omega))
  refine ⟨?_, ?_⟩
  · rw [Sw.told, if_neg (by rw [hw]; decide)]
  · rw [Sw.nextW, if_pos hw]
theorem bad_of (b : By) (n : Int) : (Sw.mk b n true).told decW = none ∧ (Sw.mk b n true).nextW decW = ⟨b, n, true⟩ ∧ (Sw.mk b n true).over = true := by
  have hw : (Sw.mk b n true).way = 0 := Sw.way0 (.inl rfl)
  refine ⟨?_, ?_, rfl⟩
  · rw [Sw.told, if_neg (by rw [hw]; decide)]
  · rw [Sw.nextW, if_pos hw]
/-- Bytes that make a stream bad. -/
def BadB (l : List UInt8) : Prop := l.length ≤ 6 ∧ (∀ z n, (Sw.mk ⟨z, l⟩ n false).told decW = none ∧ ((Sw.mk ⟨z, l⟩ n false).nextW decW).bad = true) ∧ ∀ z, decR ⟨z, l⟩ = none
theorem badB_1 {l : List UInt8} (h2 : 2 ≤ l.length) (h6 : l.length ≤ 6) (hs : 202 < 2 + ((l.getD 0 0).toNat * 256 + (l.getD 1 0).toNat)) (hd : decR ⟨false, l⟩ = none) (hd' : decR ⟨true, l⟩ = none) : BadB l := by
  refine ⟨h6, fun z n => ?_, fun z => by cases z <;> assumption⟩
  have hw : (Sw.mk ⟨z, l⟩ n false).way = 1 := Sw.way1 rfl h2 hs
  refine ⟨?_, ?_⟩
  · rw [Sw.told, if_neg (by rw [hw]; decide)]
  · rw [Sw.nextW, if_neg (by rw [hw]; decide), if_pos hw]
theorem badB_2 {l : List UInt8} (h2 : 2 ≤ l.length) (h6 : l.length ≤ 6) (hs : 2 + ((l.getD 0 0).toNat * 256 + (l.getD 1 0).toNat) = l.length) (hd : decR ⟨false, l⟩ = none) (hd' : decR ⟨true, l⟩ = none) : BadB l := by
  refine ⟨h6, fun z n => ?_, fun z => by cases z <;> assumption⟩
  have hsz : (Sw.mk ⟨z, l⟩ n false).size = l.length := hs
  have hw : (Sw.mk ⟨z, l⟩ n false).way = 2 := Sw.way2 rfl h2 (by rw [hsz]; omega) (by rw [hsz]; show ¬ l.length < l.length; omega)
  have hh : (Sw.mk ⟨z, l⟩ n false).head = ⟨z, l⟩ := by rw [Sw.head, hsz]; show By.mk z (l.take l.length) = _; simp
  have hx : decW ⟨z, l⟩ = none := by
    have := (dec_agree2 l z false).1
    rw [hd] at this
    cases h : decW ⟨z, l⟩ with
    | none => rfl
    | some d => rw [h] at this; cases this
  refine ⟨?_, ?_⟩
  · rw [Sw.told, if_pos hw, hh, hx]
  · rw [Sw.nextW, if_neg (by rw [hw]; decide), if_neg (by rw [hw]; decide), hh, hx]; rfl
def badL : Nat → List UInt8
  | 0 => [0, 201]
  | 1 => [255, 255]
  | 2 => [0, 0]
  | 3 => [0, 1, 0]
  | 4 => [0, 1, 13]
  | 5 => [0, 2, 7, 0]
  | 6 => [0, 3, 5, 11, 0]
  | 7 => [0, 4, 5, 11, 1, 0]
  | _ => [0, 4, 5, 11, 1, 12]
theorem badL_bad (j : Nat) : BadB (badL j) := by
  rcases j with _ | _ | _ | _ | _ | _ | _ | _ | j
  · exact badB_1 (by decide) (by decide) (by decide) (by kernel_rfl) (by kernel_rfl)
  · exact badB_1 (by decide) (by decide) (by decide) (by kernel_rfl) (by kernel_rfl)
  · exact badB_2 (by decide) (by decide) (by decide) (by kernel_rfl) (by kernel_rfl)
  · exact badB_2 (by decide) (by decide) (by decide) (by kernel_rfl) (by kernel_rfl)
  · exact badB_2 (by decide) (by decide) (by decide) (by kernel_rfl) (by kernel_rfl)
  · exact badB_2 (by decide) (by decide) (by decide) (by kernel_rfl) (by kernel_rfl)
  · exact badB_2 (by decide) (by decide) (by decide) (by kernel_rfl) (by kernel_rfl)
  · exact badB_2 (by decide) (by decide) (by decide) (by kernel_rfl) (by kernel_rfl)
  · have e : badL (j + 8) = [0, 4, 5, 11, 1, 12] := rfl
    rw [e]
    exact badB_2 (by decide) (by decide) (by decide) (by kernel_rfl) (by kernel_rfl)
end Go.Abs
