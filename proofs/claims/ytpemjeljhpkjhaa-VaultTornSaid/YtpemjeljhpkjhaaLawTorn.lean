/-
  Own work. Conditions: none. The vault's plain laws: one cell is torn. The code of a law in the short form. (Own work; printed by our own program.) The walk of the law VaultTorn.
-/
import Derived.Test.YtpemjeljhpkjhaaVaC
set_option linter.unusedVariables false
set_option linter.unusedSimpArgs false
set_option linter.unnecessarySimpa false
namespace Go.Abs
open Go.Proofs
set_option maxRecDepth 100000

theorem tearTo_lo {g : Nat → Ce} {t : List Int} {a : Nat} (h : ∀ k, k < 18 → k ≠ a → (g k).torn = false) : ∀ n, n ≤ a → n ≤ 18 → tearTo g t n = (g, t)
  | 0, _, _ => rfl
  | n + 1, h1, h2 => by rw [tearTo, if_neg (by rw [h n (by omega) (by omega)]; exact Bool.false_ne_true), tearTo_lo h n (by omega) (by omega)]
theorem tearTo_one {g : Nat → Ce} {t : List Int} {a : Nat} (ha : a < 18) (ht : (g a).torn = true) (h : ∀ k, k < 18 → k ≠ a → (g k).torn = false) : ∀ n, a < n → n ≤ 18 → tearTo g t n = (updC g a (tornC (g a) (tornN (g a) t)), t.drop 1)
  | 0, h1, _ => absurd h1 (by omega)
  | n + 1, h1, h2 => by
    rw [tearTo]
    by_cases hn : n = a
    · subst hn
      rw [if_pos ht, tearTo_lo h n (by omega) (by omega)]
    · rw [if_neg (by rw [h n (by omega) hn]; exact Bool.false_ne_true), tearTo_one ha ht h n (by omega) (by omega)]
/-- The vault of VaultTorn, behind the first account. -/
structure Tn (r : Rec) (s : Vt) : Prop where
  acc : Acc s (updA (fun _ => none) 0 (some r)) 2
  fine : s.fine
  dead : s.dead = false
  idx : (cntTo s.c 0 2).1 = 0
  c1 : (s.c 1).now = ⟨true, []⟩
  torn : ∀ k, (s.c k).torn = false
theorem tn_one {r : Rec} (hr : r.good) : (vtN.put r).1 = 0 ∧ Tn r (vtN.put r).2 := by
  have hl : vtN.left < 0 ∨ 2 ≤ vtN.left := .inl (by rw [vtN_alive.2]; omega)
  obtain ⟨p1, p2, p3, p4, p5⟩ := vtN_acc.put hr (by omega) vtN_alive.1 hl (n := 0) rfl
  have hlen := out_len hr.ok
  have hw := write_full (s := vtN) ((0 : Nat) : Int) r.outW vtN_alive.1 hl
  have hc : ∀ k, k < 16 → vtN.c k = ce0 := fun k hk => by
    have := write_else (s := vt0) 8 ⟨false, eightB 1⟩ (Nat.le_refl 8) k (by omega)
    exact this
  have h0 : cntTo vtN.c (0 : Nat) 2 = (-1, cnt0) := by
    have : cntTo vtN.c (0 : Nat) 2 = cntTo vt0.c (0 : Nat) 2 := cnt_congr (by omega) (by rw [hc 0 (by omega)]; rfl) (by rw [hc 1 (by omega)]; rfl)
    rw [this]; exact vt0_cnt 0 (by omega)
  have ha : wrAt vtN ((0 : Nat) : Int) = 0 := by rw [wrAt_nat vtN 0 (by omega), h0]; rfl
  refine ⟨p1, p2, put_fine vtN_fine (by omega), p4, ?_, ?_, ?_⟩
  · have := (cnt_written vtN 0 r.outW ⟨true, []⟩ false (by omega) (by rw [show vtN.cnt ((0 : Nat) : Int) = (cntTo vtN.c (0 : Nat) 2).2 from rfl, h0]; exact ⟨Int.le_refl _, by show (0 : Int) < _; omega⟩) (by omega)).2
    rw [p3, hw.1, ha]
    rw [ha] at this
    have key := cnt2_idx (readOK ((2 * 0 : Nat) : Int) (updC vtN.c (0 : Int).toNat ⟨wrB vtN ((0 : Nat) : Int) r.outW, ⟨true, []⟩, false⟩ (2 * 0)).now) (readOK ((2 * 0 + 1 : Nat) : Int) (updC vtN.c (0 : Int).toNat ⟨wrB vtN ((0 : Nat) : Int) r.outW, ⟨true, []⟩, false⟩ (2 * 0 + 1)).now) (readC (updC vtN.c (0 : Int).toNat ⟨wrB vtN ((0 : Nat) : Int) r.outW, ⟨true, []⟩, false⟩ (2 * 0)).now) (readC (updC vtN.c (0 : Int).toNat ⟨wrB vtN ((0 : Nat) : Int) r.outW, ⟨true, []⟩, false⟩ (2 * 0 + 1)).now)
    rw [← cnt_two _ 0 (by omega)] at key
    rcases key with ⟨k1, _⟩ | ⟨k1, _⟩ | ⟨_, _, k3⟩
    · have this : 0 ≤ (cntTo (updC vtN.c (0 : Int).toNat ⟨wrB vtN ((0 : Nat) : Int) r.outW, ⟨true, []⟩, false⟩) ((0 : Nat) : Int) 2).1 := this
      rw [k1] at this; omega
    · exact k1
    · rw [updC_ne _ _ (by decide), hc _ (by omega)] at k3
      cases k3
  · rw [p3, hw.1, ha]; dsimp only; rw [updC_ne _ _ (show (1 : Nat) ≠ (0 : Int).toNat by decide), hc 1 (by omega)]; rfl
  · intro k
    rw [p3, hw.1]
    dsimp only
    by_cases hk : k = (wrAt vtN ((0 : Nat) : Int)).toNat
    · subst hk; rw [updC_self]
    · rw [updC_ne _ _ hk]; exact vtN_untorn k
/-- The second account's write dies half way. -/
theorem tn_two {r r' : Rec} {s : Vt} (h : Tn r s) (hr : r'.good) (hn : r'.name = r.name) :
    (s.fail 1).put r' = (10, ⟨updC s.c 1 ⟨⟨true, []⟩, wrB s 0 r'.outW, true⟩, 0, true⟩) := by
  have ha : Acc (s.fail 1) (updA (fun _ => none) 0 (some r)) 2 := h.acc.congr fun _ _ => rfl
  have hf : firstI (named (updA (fun _ => none) 0 (some r)) r'.name) 8 = 0 := by
    refine firstI_is (k := 0) (by omega) ?_ (fun j hj => by omega)
    show (r.name == r'.name) = true
    rw [hn]; exact beq_self_eq_true _
  have hs : slotA (updA (fun _ => none) 0 (some r)) r'.name = 0 := by unfold slotA; rw [hf]; rfl
  have hat : wrAt (s.fail 1) ((0 : Nat) : Int) = 1 := by
    rw [wrAt_nat _ 0 (by omega)]
    have : (cntTo (s.fail 1).c ((0 : Nat) : Int) 2).1 = 0 := h.idx
    rw [if_pos this]; rfl
  have hw := write_half (s := s.fail 1) 0 r'.outW h.dead rfl
  unfold Vt.put
  rw [if_neg (by rw [show (s.fail 1).dead = s.dead from rfl, h.dead]; exact Bool.false_ne_true), if_pos hr.ok, ha.slot, hs, if_neg (by omega), hw.2, hw.1]
  have hat : wrAt (s.fail 1) 0 = 1 := hat
  rw [hat]
  show ((10 : Int), (⟨updC s.c 1 ⟨(s.c 1).now, _, true⟩, 0, true⟩ : Vt)) = _
  rw [h.c1]
  rfl
theorem tn_tear {r r' : Rec} {s : Vt} (h : Tn r s) (x : Int) (hx : 0 ≤ x ∧ x ≤ (wrB s 0 r'.outW).l.length) :
    (tearTo (updC s.c 1 ⟨⟨true, []⟩, wrB s 0 r'.outW, true⟩) [x] 18).1 = updC s.c 1 ⟨catY [⟨false, (wrB s 0 r'.outW).l.take x.toNat⟩, ⟨true, []⟩], ⟨true, []⟩, false⟩ := by
  have ht : ∀ k, k < 18 → k ≠ 1 → (updC s.c 1 ⟨⟨true, []⟩, wrB s 0 r'.outW, true⟩ k).torn = false := fun k _ hk => by rw [updC_ne _ _ hk]; exact h.torn k
  rw [tearTo_one (a := 1) (by omega) (by rw [updC_self]) ht 18 (by omega) (by omega), updC_self]
  dsimp only
  rw [updC_two]
  have e1 : tornN ⟨⟨true, []⟩, wrB s 0 r'.outW, true⟩ [x] = x := by
    unfold tornN
    dsimp only
    (repeat' split) <;> omega
  rw [e1]
  congr 1
  unfold tornC
  congr 2
  simp only [List.length_nil, List.drop_nil]
  rfl
theorem catY_two (a b : By) : (catY [a, b]).l = a.l ++ b.l := by simp [catY, catB, catTo]
/-- Begun anew: nothing came, or all. -/
theorem tn_again {r r' : Rec} {s : Vt} (h : Tn r s) (hr : r'.good) (hn : r'.name = r.name) (x : Int) (hx : 0 ≤ x ∧ x ≤ (wrB s 0 r'.outW).l.length) (b : Bool) :
    ((⟨updC s.c 1 ⟨⟨true, []⟩, wrB s 0 r'.outW, true⟩, 0, b⟩ : Vt).again [x]).c 1 = ⟨catY [⟨false, (wrB s 0 r'.outW).l.take x.toNat⟩, ⟨true, []⟩], ⟨true, []⟩, false⟩
    ∧ (x = 0 → ∃ d, ((⟨updC s.c 1 ⟨⟨true, []⟩, wrB s 0 r'.outW, true⟩, 0, b⟩ : Vt).again [x]).get r.name = some d ∧ d.norm = r.norm)
    ∧ (x = (wrB s 0 r'.outW).l.length → ∃ d, ((⟨updC s.c 1 ⟨⟨true, []⟩, wrB s 0 r'.outW, true⟩, 0, b⟩ : Vt).again [x]).get r.name = some d ∧ d.norm = r'.norm) := by
  have e := tn_tear (r' := r') h x hx
  have hlen := out_len hr.ok
  have eT : (⟨updC s.c 1 ⟨⟨true, []⟩, wrB s 0 r'.outW, true⟩, 0, b⟩ : Vt).tear [x] = ⟨updC s.c 1 ⟨catY [⟨false, (wrB s 0 r'.outW).l.take x.toNat⟩, ⟨true, []⟩], ⟨true, []⟩, false⟩, -1, false⟩ := by rw [Vt.tear, e]
  have eA : (⟨updC s.c 1 ⟨⟨true, []⟩, wrB s 0 r'.outW, true⟩, 0, b⟩ : Vt).again [x] = (⟨updC s.c 1 ⟨catY [⟨false, (wrB s 0 r'.outW).l.take x.toNat⟩, ⟨true, []⟩], ⟨true, []⟩, false⟩, -1, false⟩ : Vt).write 8 ⟨false, eightB (w64 ((⟨updC s.c 1 ⟨catY [⟨false, (wrB s 0 r'.outW).l.take x.toNat⟩, ⟨true, []⟩], ⟨true, []⟩, false⟩, -1, false⟩ : Vt).boot + 1))⟩ := by rw [Vt.again, eT]
  rw [eA]
  clear eA eT e
  generalize w64 (Vt.boot _ + 1) = w
  have hf : ∀ q : Rec, q.name = r.name → firstI (named (updA (fun _ => none) 0 (some q)) r.name) 8 = 0 := fun q hq => by
    refine firstI_is (k := 0) (by omega) ?_ (fun j hj => by omega)
    show (q.name == r.name) = true
    rw [hq]; exact beq_self_eq_true _
  refine ⟨?_, fun h0 => ?_, fun h1 => ?_⟩
  · rw [show (8 : Int) = ((8 : Nat) : Int) from rfl, write_else 8 _ (by omega) 1 (by omega)]
    dsimp only
    exact updC_self _ _ _
  · subst h0
    have a1 : Acc (⟨updC s.c 1 ⟨catY [⟨false, (wrB s 0 r'.outW).l.take (0 : Int).toNat⟩, ⟨true, []⟩], ⟨true, []⟩, false⟩, -1, false⟩ : Vt) (updA (fun _ => none) 0 (some r)) 2 := h.acc.congr fun k _ => by
      dsimp only
      by_cases hk : k = 1
      · subst hk; rw [updC_self, h.c1]; dsimp only; rw [catY_two]; simp
      · rw [updC_ne _ _ hk]
    obtain ⟨d, d1, d2, _⟩ := (a1.era (by omega) ⟨false, eightB w⟩ (by rw [eightB_len]; omega) rfl (.inl (by show (-1 : Int) < 0; omega))).get (nm := r.name) (n := 0) (r := r) (hf r rfl) rfl
    exact ⟨d, d1, d2⟩
  · have sF := (show Acc (s.fail (-1)) (updA (fun _ => none) 0 (some r)) 2 from h.acc.congr fun _ _ => rfl)
    have hl : (s.fail (-1)).left < 0 ∨ 2 ≤ (s.fail (-1)).left := .inl (by show (if (-1 : Int) < -1 then (-1 : Int) else -1) < 0; split <;> omega)
    have hdd : (s.fail (-1)).dead = false := h.dead
    obtain ⟨w1, _, _⟩ := sF.write 0 (by omega) r'.outW (by omega) (by omega) hdd hl (some r') (.inr ⟨rfl, hr⟩)
    rw [if_neg (by omega), (write_full _ _ hdd hl).1] at w1
    have hat : wrAt (s.fail (-1)) ((0 : Nat) : Int) = 1 := by
      rw [wrAt_nat _ 0 (by omega)]
      have : (cntTo (s.fail (-1)).c ((0 : Nat) : Int) 2).1 = 0 := h.idx
      rw [if_pos this]; rfl
    have eu : updA (updA (fun _ => none) 0 (some r)) 0 (some r') = updA (fun _ => none) 0 (some r') := by funext k; unfold updA; split <;> rfl
    rw [hat, eu] at w1
    have a1 : Acc (⟨updC s.c 1 ⟨catY [⟨false, (wrB s 0 r'.outW).l.take x.toNat⟩, ⟨true, []⟩], ⟨true, []⟩, false⟩, -1, false⟩ : Vt) (updA (fun _ => none) 0 (some r')) 3 := w1.congr fun k _ => by
      dsimp only
      by_cases hk : k = 1
      · subst hk
        rw [updC_self, show ((1 : Int).toNat) = 1 from rfl, updC_self]
        dsimp only
        rw [catY_two, h1]
        simp only [Int.toNat_natCast, List.take_length, List.append_nil]
        rfl
      · rw [updC_ne _ _ hk, show ((1 : Int).toNat) = 1 from rfl, updC_ne _ _ hk]; rfl
    obtain ⟨d, d1, d2, _⟩ := (a1.era (by omega) ⟨false, eightB w⟩ (by rw [eightB_len]; omega) rfl (.inl (by show (-1 : Int) < 0; omega))).get (nm := r.name) (n := 0) (r := r') (hf r' hn) rfl
    exact ⟨d, d1, d2⟩
open Go.Proofs
set_option maxRecDepth 100000
-- sentinel/sentinellaw6.VaultTorn
def N4 : Nat := 161
def keep4 : List Nat := [0, 1, 2, 3, 8, 9, 10, 11, 12, 13, 14, 15, 16, 17, 18, 19, 20, 22, 25, 28, 53, 60, 67, 93, 136, 144]
def res4 : List RV := [(.t 8)]
def c4 : CC :=
 (.seq (.reg [⟨(some 8), (.mov (.c (.bool false))), none, 2⟩] [])
 (.seq (.seq (.reg [⟨(some 21), (.call (.c (.fn 8 [])) []), none, 2⟩, ⟨(some 22), (.un .not (.t 21)), none, 2⟩] [])
 (.cond (.t 22)
 (.seq (.reg [⟨(some 8), (.mov (.c (.bool false))), none, 2⟩] [])
 .ret)
 .skip))
 (.seq (.seq (.reg [⟨(some 23), (.mov (.t 2)), none, 2⟩, ⟨(some 24), (.len false (.t 23)), none, 2⟩, ⟨(some 25), (.bin .gtr (.t 24) (.c (.int 60))), none, 2⟩] [])
 (.cond (.t 25)
 (.seq (.reg [⟨(some 8), (.mov (.c (.bool true))), none, 2⟩] [])
 .ret)
 .skip))
 (.seq (.reg [⟨(some 26), (.call (.c (.fn 9 [])) []), none, 2⟩, ⟨(some 9), (.mov (.t 26)), none, 2⟩] [])
 (.seq (.seq (.reg [⟨(some 27), (.mov (.t 9)), none, 2⟩, ⟨(some 28), (.eq false .ptr (.t 27) (.c .nilp)), none, 2⟩] [])
 (.cond (.t 28)
 (.seq (.reg [⟨(some 8), (.mov (.c (.bool false))), none, 2⟩] [])
 .ret)
 .skip))
 (.seq (.reg [⟨(some 29), (.mov (.t 0)), none, 2⟩, ⟨(some 30), (.call (.c (.fn 10 [])) [(.t 29), (.c (.int 1073741824))]), none, 2⟩, ⟨(some 31), (.mov (.t 2)), none, 2⟩, ⟨(some 32), (.call (.c (.fn 13 [])) [(.t 30), (.t 31)]), none, 2⟩, ⟨(some 33), (.mov (.t 1)), none, 2⟩, ⟨(some 34), (.call (.c (.fn 10 [])) [(.t 33), (.c (.int 1073741824))]), none, 2⟩, ⟨(some 35), (.mov (.t 2)), none, 2⟩, ⟨(some 36), (.call (.c (.fn 13 [])) [(.t 34), (.t 35)]), none, 2⟩, ⟨(some 10), (.alloc (.agg [(.int 0), (.str []), (.sl true 0 0 (.agg []) true), (.u32 0), (.u32 0), (.u32 0), (.u32 0), (.u32 0), (.u32 0), (.u32 0), (.u32 0), (.u32 0), (.u32 0), (.u32 0), (.u32 0), (.u32 0), (.u32 0), (.u32 0), (.u32 0), (.sl true 0 0 (.agg []) true), (.int 0), (.int 0), (.int 0)])), none, 2⟩, ⟨(some 11), (.alloc (.agg [(.int 0), (.str []), (.sl true 0 0 (.agg []) true), (.u32 0), (.u32 0), (.u32 0), (.u32 0), (.u32 0), (.u32 0), (.u32 0), (.u32 0), (.u32 0), (.u32 0), (.u32 0), (.u32 0), (.u32 0), (.u32 0), (.u32 0), (.u32 0), (.sl true 0 0 (.agg []) true), (.int 0), (.int 0), (.int 0)])), none, 2⟩, ⟨none, (.store (some 23) (.t 10) (.t 32)), none, 2⟩, ⟨none, (.store (some 23) (.t 11) (.t 36)), none, 2⟩] [])
 (.seq (.reg [⟨(some 37), (.fad 1 (.t 10)), none, 2⟩, ⟨(some 38), (.load none (.t 37)), none, 2⟩, ⟨(some 39), (.fad 1 (.t 11)), none, 2⟩, ⟨none, (.store none (.t 39) (.t 38)), none, 2⟩] [])
 (.seq (.reg [⟨(some 40), (.mov (.t 9)), none, 2⟩, ⟨(some 41), (.load (some 23) (.t 10)), none, 2⟩, ⟨(some 42), (.call (.c (.fn 12 [])) [(.t 40), (.t 41)]), none, 2⟩] [])
 (.seq (.reg [⟨(some 43), (.mov (.t 9)), none, 2⟩, ⟨(some 44), (.call (.c (.fn 11 [])) [(.t 43), (.c (.int 1))]), none, 2⟩] [])
 (.seq (.reg [⟨(some 45), (.mov (.t 9)), none, 2⟩, ⟨(some 46), (.load (some 23) (.t 11)), none, 2⟩, ⟨(some 47), (.call (.c (.fn 12 [])) [(.t 45), (.t 46)]), none, 2⟩, ⟨(some 12), (.mov (.t 47)), none, 2⟩] [])
 (.seq (.reg [⟨(some 48), (.mov (.t 9)), none, 2⟩, ⟨(some 49), (.call (.c (.fn 17 [])) [(.t 48)]), none, 2⟩, ⟨(some 13), (.mov (.t 49)), none, 2⟩] [])
 (.seq (.reg [⟨(some 14), (.mov (.c (.int (-1)))), none, 2⟩] [])
 (.seq (.seq (.reg [⟨(some 15), (.mov (.c (.int 0))), none, 2⟩] [])
 (.block 0 (.loop (.seq (.seq (.reg [⟨(some 50), (.mov (.t 15)), none, 2⟩, ⟨(some 51), (.mov (.t 13)), none, 2⟩, ⟨(some 52), (.len false (.t 51)), none, 2⟩, ⟨(some 53), (.bin .lss (.t 50) (.t 52)), none, 2⟩] [])
 (.cond (.t 53)
 .skip
 (.exit 0)))
 (.seq (.block 1 (.seq (.reg [⟨(some 56), (.mov (.t 13)), none, 2⟩, ⟨(some 57), (.mov (.t 15)), none, 2⟩, ⟨(some 58), (.iadS 3 (.t 56) (.t 57)), none, 2⟩, ⟨(some 59), (.fad 2 (.t 58)), none, 2⟩, ⟨(some 60), (.load none (.t 59)), none, 2⟩] [])
 (.cond (.t 60)
 (.reg [⟨(some 61), (.mov (.t 15)), none, 2⟩, ⟨(some 14), (.mov (.t 61)), none, 2⟩] [])
 .skip)))
 (.reg [⟨(some 54), (.mov (.t 15)), none, 2⟩, ⟨(some 55), (.bin .add (.t 54) (.c (.int 1))), none, 2⟩, ⟨(some 15), (.mov (.t 55)), none, 2⟩] []))))))
 (.seq (.seq (.reg [⟨(some 62), (.mov (.t 12)), none, 2⟩, ⟨(some 63), (.eq true .sc (.t 62) (.c (.int 10))), none, 2⟩, ⟨(some 64), (.mov (.t 63)), none, 2⟩, ⟨(some 65), (.mov (.t 14)), (some (64, false)), 2⟩, ⟨(some 66), (.bin .lss (.t 65) (.c (.int 0))), (some (64, false)), 2⟩, ⟨(some 67), (.pick (.t 64) (.c (.bool true)) (.t 66)), none, 2⟩] [])
 (.cond (.t 67)
 (.seq (.reg [⟨(some 8), (.mov (.c (.bool false))), none, 2⟩] [])
 .ret)
 .skip))
 (.seq (.reg [⟨(some 68), (.mov (.t 3)), none, 2⟩, ⟨(some 69), (.mov (.t 13)), none, 2⟩, ⟨(some 70), (.mov (.t 14)), none, 2⟩, ⟨(some 71), (.iadS 3 (.t 69) (.t 70)), none, 2⟩, ⟨(some 72), (.fad 1 (.t 71)), none, 2⟩, ⟨(some 73), (.load none (.t 72)), none, 2⟩, ⟨(some 74), (.len false (.t 73)), none, 2⟩, ⟨(some 75), (.bin .add (.t 74) (.c (.int 1))), none, 2⟩, ⟨(some 76), (.call (.c (.fn 10 [])) [(.t 68), (.t 75)]), none, 2⟩, ⟨(some 16), (.mov (.t 76)), none, 2⟩] [])
 (.seq (.reg [⟨(some 77), (.bsl false .u8 1 0 [(.u8 0)] []), none, 2⟩, ⟨(some 78), (.mov (.t 13)), none, 2⟩, ⟨(some 79), (.mov (.t 14)), none, 2⟩, ⟨(some 80), (.iadS 3 (.t 78) (.t 79)), none, 2⟩, ⟨(some 81), (.fad 1 (.t 80)), none, 2⟩, ⟨(some 82), (.load none (.t 81)), none, 2⟩, ⟨(some 83), (.mov (.t 16)), none, 2⟩, ⟨(some 84), (.slcS 1 (.t 82) none (some (.t 83)) none), none, 2⟩, ⟨(some 85), (.app true 1 1 (.t 77) (.t 84)), none, 2⟩, ⟨(some 17), (.mov (.t 85)), none, 2⟩] [])
 (.seq (.seq (.reg [⟨(some 86), (.mov (.t 16)), none, 2⟩, ⟨(some 87), (.mov (.t 13)), none, 2⟩, ⟨(some 88), (.mov (.t 14)), none, 2⟩, ⟨(some 89), (.iadS 3 (.t 87) (.t 88)), none, 2⟩, ⟨(some 90), (.fad 0 (.t 89)), none, 2⟩, ⟨(some 91), (.load none (.t 90)), none, 2⟩, ⟨(some 92), (.len false (.t 91)), none, 2⟩, ⟨(some 93), (.bin .lss (.t 86) (.t 92)), none, 2⟩] [])
 (.cond (.t 93)
 (.reg [⟨(some 94), (.mov (.t 17)), none, 2⟩, ⟨(some 95), (.mov (.t 13)), none, 2⟩, ⟨(some 96), (.mov (.t 14)), none, 2⟩, ⟨(some 97), (.iadS 3 (.t 95) (.t 96)), none, 2⟩, ⟨(some 98), (.fad 0 (.t 97)), none, 2⟩, ⟨(some 99), (.load none (.t 98)), none, 2⟩, ⟨(some 100), (.mov (.t 16)), none, 2⟩, ⟨(some 101), (.slcS 1 (.t 99) (some (.t 100)) none none), none, 2⟩, ⟨(some 102), (.app true 1 1 (.t 94) (.t 101)), none, 2⟩, ⟨(some 17), (.mov (.t 102)), none, 2⟩] [])
 .skip))
 (.seq (.reg [⟨(some 103), (.mov (.t 9)), none, 2⟩, ⟨(some 104), (.mov (.t 16)), none, 2⟩, ⟨(some 105), (.bsl false .int 1 1 [(.int 0)] [(0, (1, (.t 104)))]), none, 2⟩, ⟨(some 106), (.call (.c (.fn 14 [])) [(.t 103), (.t 105)]), none, 2⟩] [])
 (.seq (.reg [⟨(some 107), (.mov (.t 9)), none, 2⟩, ⟨(some 108), (.call (.c (.fn 17 [])) [(.t 107)]), none, 2⟩, ⟨(some 18), (.mov (.t 108)), none, 2⟩] [])
 (.seq (.reg [⟨(some 110), (.mov (.t 9)), none, 2⟩, ⟨(some 111), (.fad 1 (.t 10)), none, 2⟩, ⟨(some 112), (.load none (.t 111)), none, 2⟩, ⟨(some 113), (.call (.c (.fn 18 [])) [(.t 110), (.t 112)]), none, 2⟩, ⟨(some 109), (.mov (.t 113)), none, 2⟩, ⟨(some 114), (.ext (.t 109) 0), none, 2⟩, ⟨(some 115), (.ext (.t 109) 1), none, 2⟩, ⟨(some 19), (.alloc (.agg [(.int 0), (.str []), (.sl true 0 0 (.agg []) true), (.u32 0), (.u32 0), (.u32 0), (.u32 0), (.u32 0), (.u32 0), (.u32 0), (.u32 0), (.u32 0), (.u32 0), (.u32 0), (.u32 0), (.u32 0), (.u32 0), (.u32 0), (.u32 0), (.sl true 0 0 (.agg []) true), (.int 0), (.int 0), (.int 0)])), none, 2⟩, ⟨none, (.store (some 23) (.t 19) (.t 114)), none, 2⟩, ⟨(some 20), (.mov (.t 115)), none, 2⟩] [])
 (.seq (.seq (.reg [⟨(some 116), (.mov (.t 18)), none, 0⟩, ⟨(some 117), (.len false (.t 116)), none, 0⟩, ⟨(some 118), (.eq true .sc (.t 117) (.c (.int 18))), none, 0⟩, ⟨(some 119), (.mov (.t 118)), none, 0⟩, ⟨(some 120), (.mov (.t 18)), (some (119, false)), 0⟩, ⟨(some 121), (.mov (.t 14)), (some (119, false)), 0⟩, ⟨(some 122), (.iadS 3 (.t 120) (.t 121)), (some (119, false)), 1⟩, ⟨(some 123), (.fad 0 (.t 122)), (some (119, false)), 0⟩, ⟨(some 124), (.load none (.t 123)), (some (119, false)), 1⟩, ⟨(some 125), (.conv .bstr (.t 124)), (some (119, false)), 1⟩, ⟨(some 126), (.mov (.t 17)), (some (119, false)), 0⟩, ⟨(some 127), (.conv .bstr (.t 126)), (some (119, false)), 1⟩, ⟨(some 128), (.eq true .sc (.t 125) (.t 127)), (some (119, false)), 0⟩, ⟨(some 129), (.pick (.t 119) (.c (.bool true)) (.t 128)), none, 0⟩, ⟨(some 130), (.mov (.t 129)), none, 0⟩, ⟨(some 131), (.mov (.t 18)), (some (130, false)), 0⟩, ⟨(some 132), (.mov (.t 14)), (some (130, false)), 0⟩, ⟨(some 133), (.iadS 3 (.t 131) (.t 132)), (some (130, false)), 1⟩, ⟨(some 134), (.fad 2 (.t 133)), (some (130, false)), 0⟩, ⟨(some 135), (.load none (.t 134)), (some (130, false)), 1⟩, ⟨(some 136), (.pick (.t 130) (.c (.bool true)) (.t 135)), none, 0⟩] [])
 (.cond (.t 136)
 (.seq (.reg [⟨(some 8), (.mov (.c (.bool false))), none, 2⟩] [])
 .ret)
 .skip))
 (.seq (.seq (.reg [⟨(some 137), (.mov (.t 16)), none, 2⟩, ⟨(some 138), (.mov (.t 13)), none, 2⟩, ⟨(some 139), (.mov (.t 14)), none, 2⟩, ⟨(some 140), (.iadS 3 (.t 138) (.t 139)), none, 2⟩, ⟨(some 141), (.fad 1 (.t 140)), none, 2⟩, ⟨(some 142), (.load none (.t 141)), none, 2⟩, ⟨(some 143), (.len false (.t 142)), none, 2⟩, ⟨(some 144), (.eq false .sc (.t 137) (.t 143)), none, 2⟩] [])
 (.cond (.t 144)
 (.seq (.reg [⟨(some 145), (.mov (.t 20)), none, 2⟩, ⟨(some 146), (.mov (.t 145)), none, 2⟩, ⟨(some 147), (.load (some 23) (.t 19)), (some (146, true)), 2⟩, ⟨(some 148), (.load (some 23) (.t 11)), (some (146, true)), 2⟩, ⟨(some 149), (.call (.c (.fn 19 [])) [(.t 147), (.t 148)]), (some (146, true)), 2⟩, ⟨(some 150), (.pick (.t 146) (.t 149) (.c (.bool false))), none, 2⟩, ⟨(some 8), (.mov (.t 150)), none, 2⟩] [])
 .ret)
 .skip))
 (.seq (.reg [⟨(some 151), (.mov (.t 16)), none, 2⟩, ⟨(some 152), (.bin .gtr (.t 151) (.c (.int 0))), none, 2⟩, ⟨(some 153), (.mov (.t 152)), none, 2⟩, ⟨(some 154), (.mov (.t 20)), (some (153, false)), 2⟩, ⟨(some 155), (.mov (.t 154)), (some (153, false)), 2⟩, ⟨(some 156), (.load (some 23) (.t 19)), (some (155, true)), 2⟩, ⟨(some 157), (.load (some 23) (.t 10)), (some (155, true)), 2⟩, ⟨(some 158), (.call (.c (.fn 19 [])) [(.t 156), (.t 157)]), (some (155, true)), 2⟩, ⟨(some 159), (.pick (.t 155) (.t 158) (.c (.bool false))), (some (153, false)), 2⟩, ⟨(some 160), (.pick (.t 153) (.c (.bool true)) (.t 159)), none, 2⟩, ⟨(some 8), (.mov (.t 160)), none, 2⟩] [])
 .ret)))))))))))))))))))))))
theorem o4 : FnOK Try.prog 4 N4 res4 c4 := ⟨_, _, Try.f4.results.toList, [], pures, Try.func4, show _ = some (Try.f4.body.getD .skip) by kernel_rfl, (Array.toArray_toList).symm, by kernel_rfl, by kernel_rfl, by kernel_rfl, by kernel_rfl, follows, callFunc_enter Try.func4 (by kernel_rfl) (by kernel_rfl)⟩
open Go.Proofs
set_option maxRecDepth 100000

def tnB (r r' : Rec) : Rec := { r' with name := r.name }
theorem tnB_good {r r' : Rec} (h : r.good) (h' : r'.good) : (tnB r r').good := by
  obtain ⟨h1, _, _⟩ := h
  obtain ⟨k1, k2, k3⟩ := h'
  refine ⟨?_, k2, k3⟩
  unfold Rec.ok at h1 k1 ⊢
  simp only [Bool.and_eq_true] at h1 k1 ⊢
  obtain ⟨_, _, h3, _⟩ := h1
  obtain ⟨a1, a2, a3, a4⟩ := k1
  exact ⟨a1, a2, h3, a4⟩
theorem normF_vf (g : Nat → Ce) (k : Nat) : normF 3 (vf g k) = [.y (g k).now.nil (g k).now.l, .y (g k).nxt.nil (g k).nxt.l, .b (g k).torn] := rfl
def L4 (n m : Int) (b : By) (cut : Int) (r r' : Rec) (s : Vt) : LI where
  X := Nat
  x0 := 0
  pre k := k ≤ 18
  inv k := ([(3, .int cut), (9, .ptr 1 0 0), (10, .ptr 2 0 0), (11, .ptr 3 0 0), (12, .int 10), (13, .sl false 18 3 (.rw 18 3 (vf s.c)) false), (14, .int (if 1 < k then 1 else -1)), (15, .int k)], [s.o2, s.o1 0, ⟨0, .agg r.C, false⟩, ⟨0, .agg r'.C, false⟩])
  mu k := 18 - k
  ren := true
set_option maxHeartbeats 4000000 in
theorem fn4 (n m : Int) (b : By) (cut : Int) : ACalls Try.prog 4 [.int n, .int m, b.A, .int cut] [] (fun a h => a = .bool true ∧ h = []) := by
  obtain ⟨r, hr⟩ : ∃ r, recV (within1 n 1073741824) b = r := ⟨_, rfl⟩
  obtain ⟨r0, hr0⟩ : ∃ r, recV (within1 m 1073741824) b = r := ⟨_, rfl⟩
  have g1 : r.good := by rw [← hr]; exact recV_good _ _
  have g2 : (tnB r r0).good := tnB_good g1 (by rw [← hr0]; exact recV_good _ _)
  obtain ⟨p1, p2⟩ := tn_one g1
  obtain ⟨⟨e1, s1⟩, hp⟩ : ∃ x, vtN.put r = x := ⟨_, rfl⟩
  rw [hp] at p1 p2
  dsimp only at p1 p2
  subst p1
  have hq := tn_two p2 g2 rfl
  obtain ⟨B, hB⟩ : ∃ B, wrB s1 0 (tnB r r0).outW = B := ⟨_, rfl⟩
  rw [hB] at hq
  obtain ⟨s2, hs2⟩ : ∃ s, (⟨updC s1.c 1 ⟨⟨true, []⟩, B, true⟩, 0, true⟩ : Vt) = s := ⟨_, rfl⟩
  rw [hs2] at hq
  have l1 := out_len g1.ok
  have l2 := out_len g2.ok
  have lB : B.l.length ≤ 300 := by rw [← hB, wrB_len]; omega
  have f2 : s2.fine := by
    have := put_fine (s := s1.fail 1) (r := tnB r r0) p2.fine (by omega)
    rw [hq] at this; exact this
  have t1 : ∀ k, (s2.c k).torn = decide (k = 1) := fun k => by
    rw [← hs2]
    dsimp only
    by_cases hk : k = 1
    · subst hk; rw [updC_self]; rfl
    · rw [updC_ne _ _ hk, p2.torn k]; simp [hk]
  refine o4.runS [(8, e8), (9, e9), (10, e10), (11, e11), (12, e12), (13, e13), (14, e14), (17, e17), (18, e18), (19, e19)] keep4 0 (fun _ _ _ => L4 n m b cut r (tnB r r0) s2) (own := false) (kn := 0)
    (.cons ok8 o8.enter (.cons ok9 o9.enter (.cons ok10 o10.enter (.cons ok11 o11.enter (.cons ok12 o12.enter (.cons ok13 o13.enter (.cons ok14 o14.enter (.cons ok17 o17.enter (.cons ok18 o18.enter (.cons ok19 o19.enter .nil)))))))))) (Nat.le_of_ble_eq_true rfl) rfl (Nat.le_refl _) (fun Γ hsp hkp hk0 hinv κ hκ => ?_)
  dsimp only [keep4] at hkp
  (repeat (first | ((first | refine RUN.sreg hsp hkp rfl (fun κ__ h__ => ?_) | refine RUN.reg hsp hkp rfl (fun κ__ h__ => ?_)); dsimp only [e8, e9, e10, e11, e12, e13, e14, e17, e18, e19, evV, vtD, rwD, recD, intlD, allB, not, evL, consG, consO, valG, valO, nilG, nilO, noMore, vtG, vtO, id, rhoC, hsetL, happ, happO, nodupC, inC, appN, Vt.o1, Vt.o2, vR, toCe_vf, By.eta, Ce.eta, Vt.eta, Rec.eta, Num.eta, Rec.C, sfn, txA, normF_vf, go_sem, Nat.succ, Int.reduceToNat, Nat.reduceAdd, Nat.reduceMul, Nat.reduceSub, Int.reduceLT, Int.reduceLE, Int.reduceNeg, UInt64.reduceToNat, UInt32.reduceToNat, UInt8.reduceToNat]; subst h__) | refine RUN.block rfl ?_ | refine RUN.skip rfl ?_ | refine RUN.ret rfl ?_ | (refine RUN.exit rfl ?_; dsimp only [xfind, xfB, Nat.beq]) | (refine RUN.seq rfl (fun κ__ h__ => ?_); subst h__) | (refine RUN.cond rfl (p := true) rfl (fun _ => ?_) (fun h__ => by cases h__)) | (refine RUN.cond rfl (p := false) rfl (fun h__ => by cases h__) (fun _ => ?_)) | refine ⟨by first | trivial | omega | (and_intros <;> first | trivial | rfl | omega) | rfl, ?_⟩))
  refine RUN.cond rfl rfl (fun hc => ?_) (fun hc => ?_)
  · (repeat (first | ((first | refine RUN.sreg hsp hkp rfl (fun κ__ h__ => ?_) | refine RUN.reg hsp hkp rfl (fun κ__ h__ => ?_)); dsimp only [e8, e9, e10, e11, e12, e13, e14, e17, e18, e19, evV, vtD, rwD, recD, intlD, allB, not, evL, consG, consO, valG, valO, nilG, nilO, noMore, vtG, vtO, id, rhoC, hsetL, happ, happO, nodupC, inC, appN, Vt.o1, Vt.o2, vR, toCe_vf, By.eta, Ce.eta, Vt.eta, Rec.eta, Num.eta, Rec.C, sfn, txA, normF_vf, go_sem, Nat.succ, Int.reduceToNat, Nat.reduceAdd, Nat.reduceMul, Nat.reduceSub, Int.reduceLT, Int.reduceLE, Int.reduceNeg, UInt64.reduceToNat, UInt32.reduceToNat, UInt8.reduceToNat]; subst h__) | refine RUN.block rfl ?_ | refine RUN.skip rfl ?_ | refine RUN.ret rfl ?_ | (refine RUN.exit rfl ?_; dsimp only [xfind, xfB, Nat.beq]) | (refine RUN.seq rfl (fun κ__ h__ => ?_); subst h__) | (refine RUN.cond rfl (p := true) rfl (fun _ => ?_) (fun h__ => by cases h__)) | (refine RUN.cond rfl (p := false) rfl (fun h__ => by cases h__) (fun _ => ?_)) | refine ⟨by first | trivial | omega | (and_intros <;> first | trivial | rfl | omega) | rfl, ?_⟩))
    rw [hκ]; exact leaf_true rfl
  have hb : b.l.length ≤ 60 := by have := of_decide_eq_false hc; omega
  (repeat (first | ((first | refine RUN.sreg hsp hkp rfl (fun κ__ h__ => ?_) | refine RUN.reg hsp hkp rfl (fun κ__ h__ => ?_)); dsimp only [e8, e9, e10, e11, e12, e13, e14, e17, e18, e19, evV, vtD, rwD, recD, intlD, allB, not, evL, consG, consO, valG, valO, nilG, nilO, noMore, vtG, vtO, id, rhoC, hsetL, happ, happO, nodupC, inC, appN, Vt.o1, Vt.o2, vR, toCe_vf, By.eta, Ce.eta, Vt.eta, Rec.eta, Num.eta, Rec.C, sfn, txA, normF_vf, go_sem, Nat.succ, Int.reduceToNat, Nat.reduceAdd, Nat.reduceMul, Nat.reduceSub, Int.reduceLT, Int.reduceLE, Int.reduceNeg, UInt64.reduceToNat, UInt32.reduceToNat, UInt8.reduceToNat]; subst h__) | refine RUN.block rfl ?_ | refine RUN.skip rfl ?_ | refine RUN.ret rfl ?_ | (refine RUN.exit rfl ?_; dsimp only [xfind, xfB, Nat.beq]) | (refine RUN.seq rfl (fun κ__ h__ => ?_); subst h__) | (refine RUN.cond rfl (p := true) rfl (fun _ => ?_) (fun h__ => by cases h__)) | (refine RUN.cond rfl (p := false) rfl (fun h__ => by cases h__) (fun _ => ?_)) | refine ⟨by first | trivial | omega | (and_intros <;> first | trivial | rfl | omega) | rfl, ?_⟩))
  rw [hr, hr0, hp]
  have hl1 : vtN.left ≤ 9223372036854775807 := by rw [vtN_alive.2]; omega
  refine ⟨⟨by first | rfl | trivial, hl1, Nat.le_trans l1 (by decide)⟩, ?_⟩
  have hl2 : (s1.fail 1).left ≤ 9223372036854775807 := by show (if (1 : Int) < -1 then -1 else 1) ≤ (9223372036854775807 : Int); split <;> omega
  have fs := f2.small
  (repeat (first | ((first | refine RUN.sreg hsp hkp rfl (fun κ__ h__ => ?_) | refine RUN.reg hsp hkp rfl (fun κ__ h__ => ?_)); dsimp only [e8, e9, e10, e11, e12, e13, e14, e17, e18, e19, evV, vtD, rwD, recD, intlD, allB, not, evL, consG, consO, valG, valO, nilG, nilO, noMore, vtG, vtO, id, rhoC, hsetL, happ, happO, nodupC, inC, appN, Vt.o1, Vt.o2, vR, toCe_vf, By.eta, Ce.eta, Vt.eta, Rec.eta, Num.eta, Rec.C, sfn, txA, normF_vf, go_sem, Nat.succ, Int.reduceToNat, Nat.reduceAdd, Nat.reduceMul, Nat.reduceSub, Int.reduceLT, Int.reduceLE, Int.reduceNeg, UInt64.reduceToNat, UInt32.reduceToNat, UInt8.reduceToNat]; subst h__) | refine RUN.block rfl ?_ | refine RUN.skip rfl ?_ | refine RUN.ret rfl ?_ | (refine RUN.exit rfl ?_; dsimp only [xfind, xfB, Nat.beq]) | (refine RUN.seq rfl (fun κ__ h__ => ?_); subst h__) | (refine RUN.cond rfl (p := true) rfl (fun _ => ?_) (fun h__ => by cases h__)) | (refine RUN.cond rfl (p := false) rfl (fun h__ => by cases h__) (fun _ => ?_)) | refine ⟨by first | trivial | omega | (and_intros <;> first | trivial | rfl | omega) | rfl, ?_⟩))
  rw [show (s1.fail 1).put (Rec.mk _ _ _ _ _ _ _ _ _) = (10, s2) from hq]
  refine ⟨⟨by first | rfl | trivial, hl2, Nat.le_trans l2 (by decide)⟩, ?_⟩
  (repeat (first | ((first | refine RUN.sreg hsp hkp rfl (fun κ__ h__ => ?_) | refine RUN.reg hsp hkp rfl (fun κ__ h__ => ?_)); dsimp only [e8, e9, e10, e11, e12, e13, e14, e17, e18, e19, evV, vtD, rwD, recD, intlD, allB, not, evL, consG, consO, valG, valO, nilG, nilO, noMore, vtG, vtO, id, rhoC, hsetL, happ, happO, nodupC, inC, appN, Vt.o1, Vt.o2, vR, toCe_vf, By.eta, Ce.eta, Vt.eta, Rec.eta, Num.eta, Rec.C, sfn, txA, normF_vf, go_sem, Nat.succ, Int.reduceToNat, Nat.reduceAdd, Nat.reduceMul, Nat.reduceSub, Int.reduceLT, Int.reduceLE, Int.reduceNeg, UInt64.reduceToNat, UInt32.reduceToNat, UInt8.reduceToNat]; subst h__) | refine RUN.block rfl ?_ | refine RUN.skip rfl ?_ | refine RUN.ret rfl ?_ | (refine RUN.exit rfl ?_; dsimp only [xfind, xfB, Nat.beq]) | (refine RUN.seq rfl (fun κ__ h__ => ?_); subst h__) | (refine RUN.cond rfl (p := true) rfl (fun _ => ?_) (fun h__ => by cases h__)) | (refine RUN.cond rfl (p := false) rfl (fun h__ => by cases h__) (fun _ => ?_)) | refine ⟨by first | trivial | omega | (and_intros <;> first | trivial | rfl | omega) | rfl, ?_⟩))
  refine RUN.loop hk0 hinv rfl rfl (L := L4 n m b cut r (tnB r r0) s2) rfl rfl rfl ?_ ?_ (fun (k : Nat) (hk : k ≤ 18) κ1 h1 => ?_)
  · dsimp only [L4, fits, Vt.o1, Vt.o2, vR, Rec.C, tnB]
    refine ⟨[some 0, some 1, some 2, some 3], rfl, ?_, by first | rfl | trivial, ?_⟩
    · (try dsimp only [nodupN, inN, nget, sameS, sameH, sameO, SameL, look, lookB, hget, hlen, emptyC, Nat.beq, Nat.ble]) <;> and_intros <;> first | trivial | rfl | exact .inl rfl | exact .refl rfl | exact .inl ⟨rfl, rfl⟩ | exact .ms rfl rfl rfl rfl rfl | exact .ptr rfl rfl rfl rfl rfl | exact .any | exact .nil | exact .nilm | exact .bf ⟨.ptr rfl rfl rfl rfl rfl, trivial⟩ | exact .fn ⟨.ptr rfl rfl rfl rfl rfl, trivial⟩ | exact .inr ⟨rfl, rfl⟩ | exact SameC.agg ⟨.refl rfl, .tell (byD_tell _ ⟨true, []⟩ rfl) rfl, trivial⟩ | exact .tell (tellC_rw0 _ _) rfl | exact .tell (tellC_snoc rfl) rfl | exact SameC.agg (by (try dsimp only [SameL]); and_intros <;> first | trivial | exact .refl rfl | exact .ms rfl rfl rfl rfl rfl | exact .ptr rfl rfl rfl rfl rfl | exact .nil | exact .nilm | exact .any)
    · (try dsimp only [nodupN, inN, nget, sameS, sameH, sameO, SameL, look, lookB, hget, hlen, emptyC, Nat.beq, Nat.ble]) <;> and_intros <;> first | trivial | rfl | exact .inl rfl | exact .refl rfl | exact .inl ⟨rfl, rfl⟩ | exact .ms rfl rfl rfl rfl rfl | exact .ptr rfl rfl rfl rfl rfl | exact .any | exact .nil | exact .nilm | exact .bf ⟨.ptr rfl rfl rfl rfl rfl, trivial⟩ | exact .fn ⟨.ptr rfl rfl rfl rfl rfl, trivial⟩ | exact .inr ⟨rfl, rfl⟩ | exact SameC.agg ⟨.refl rfl, .tell (byD_tell _ ⟨true, []⟩ rfl) rfl, trivial⟩ | exact .tell (tellC_rw0 _ _) rfl | exact .tell (tellC_snoc rfl) rfl | exact SameC.agg (by (try dsimp only [SameL]); and_intros <;> first | trivial | exact .refl rfl | exact .ms rfl rfl rfl rfl rfl | exact .ptr rfl rfl rfl rfl rfl | exact .nil | exact .nilm | exact .any)
  · exact Nat.zero_le _
  have tk := t1 k
  dsimp only [L4, Vt.o1, Vt.o2, vR, Rec.C, tnB]
  (repeat (first | ((first | refine RUN.sreg hsp hkp rfl (fun κ__ h__ => ?_) | refine RUN.reg hsp hkp rfl (fun κ__ h__ => ?_)); dsimp only [e8, e9, e10, e11, e12, e13, e14, e17, e18, e19, evV, vtD, rwD, recD, intlD, allB, not, evL, consG, consO, valG, valO, nilG, nilO, noMore, vtG, vtO, id, rhoC, hsetL, happ, happO, nodupC, inC, appN, Vt.o1, Vt.o2, vR, toCe_vf, By.eta, Ce.eta, Vt.eta, Rec.eta, Num.eta, Rec.C, sfn, txA, normF_vf, go_sem, Nat.succ, Int.reduceToNat, Nat.reduceAdd, Nat.reduceMul, Nat.reduceSub, Int.reduceLT, Int.reduceLE, Int.reduceNeg, UInt64.reduceToNat, UInt32.reduceToNat, UInt8.reduceToNat]; subst h__) | refine RUN.block rfl ?_ | refine RUN.skip rfl ?_ | refine RUN.ret rfl ?_ | (refine RUN.exit rfl ?_; dsimp only [xfind, xfB, Nat.beq]) | (refine RUN.seq rfl (fun κ__ h__ => ?_); subst h__) | (refine RUN.cond rfl (p := true) rfl (fun _ => ?_) (fun h__ => by cases h__)) | (refine RUN.cond rfl (p := false) rfl (fun h__ => by cases h__) (fun _ => ?_)) | refine ⟨by first | trivial | omega | (and_intros <;> first | trivial | rfl | omega) | rfl, ?_⟩))
  refine RUN.cond rfl rfl (fun h2 => ?_) (fun h2 => ?_)
  · have h2 : k < 18 := by have := of_decide_eq_true h2; omega
    have wk : w64 ((k : Int) + 1) = ((k + 1 : Nat) : Int) := by rw [w64_in (by omega)]; omega
    (repeat (first | ((first | refine RUN.sreg hsp hkp rfl (fun κ__ h__ => ?_) | refine RUN.reg hsp hkp rfl (fun κ__ h__ => ?_)); dsimp only [Int.toNat_natCast, e8, e9, e10, e11, e12, e13, e14, e17, e18, e19, evV, vtD, rwD, recD, intlD, allB, not, evL, consG, consO, valG, valO, nilG, nilO, noMore, vtG, vtO, id, rhoC, hsetL, happ, happO, nodupC, inC, appN, Vt.o1, Vt.o2, vR, toCe_vf, By.eta, Ce.eta, Vt.eta, Rec.eta, Num.eta, Rec.C, sfn, txA, normF_vf, go_sem, Nat.succ, Int.reduceToNat, Nat.reduceAdd, Nat.reduceMul, Nat.reduceSub, Int.reduceLT, Int.reduceLE, Int.reduceNeg, UInt64.reduceToNat, UInt32.reduceToNat, UInt8.reduceToNat]; subst h__) | refine RUN.block rfl ?_ | refine RUN.skip rfl ?_ | refine RUN.ret rfl ?_ | (refine RUN.exit rfl ?_; dsimp only [xfind, xfB, Nat.beq]) | (refine RUN.seq rfl (fun κ__ h__ => ?_); subst h__) | (refine RUN.cond rfl (p := true) rfl (fun _ => ?_) (fun h__ => by cases h__)) | (refine RUN.cond rfl (p := false) rfl (fun h__ => by cases h__) (fun _ => ?_)) | refine ⟨by first | trivial | omega | (and_intros <;> first | trivial | rfl | omega) | rfl, ?_⟩))
    refine RUN.cond rfl rfl (fun h3 => ?_) (fun h3 => ?_)
    all_goals
      rw [tk] at h3
      (repeat (first | ((first | refine RUN.sreg hsp hkp rfl (fun κ__ h__ => ?_) | refine RUN.reg hsp hkp rfl (fun κ__ h__ => ?_)); dsimp only [e8, e9, e10, e11, e12, e13, e14, e17, e18, e19, evV, vtD, rwD, recD, intlD, allB, not, evL, consG, consO, valG, valO, nilG, nilO, noMore, vtG, vtO, id, rhoC, hsetL, happ, happO, nodupC, inC, appN, Vt.o1, Vt.o2, vR, toCe_vf, By.eta, Ce.eta, Vt.eta, Rec.eta, Num.eta, Rec.C, sfn, txA, normF_vf, go_sem, Nat.succ, Int.reduceToNat, Nat.reduceAdd, Nat.reduceMul, Nat.reduceSub, Int.reduceLT, Int.reduceLE, Int.reduceNeg, UInt64.reduceToNat, UInt32.reduceToNat, UInt8.reduceToNat]; subst h__) | refine RUN.block rfl ?_ | refine RUN.skip rfl ?_ | refine RUN.ret rfl ?_ | (refine RUN.exit rfl ?_; dsimp only [xfind, xfB, Nat.beq]) | (refine RUN.seq rfl (fun κ__ h__ => ?_); subst h__) | (refine RUN.cond rfl (p := true) rfl (fun _ => ?_) (fun h__ => by cases h__)) | (refine RUN.cond rfl (p := false) rfl (fun h__ => by cases h__) (fun _ => ?_)) | refine ⟨by first | trivial | omega | (and_intros <;> first | trivial | rfl | omega) | rfl, ?_⟩))
      rw [wk]
      subst h1
      dsimp only [loopK, fits, L4, Vt.o1, Vt.o2, vR, Rec.C, tnB]
    · have h3 : k = 1 := of_decide_eq_true h3
      subst h3
      refine ⟨2, by omega, by omega, [some 0, some 1, some 2, some 3], rfl, ?_, by first | rfl | trivial, ?_⟩
      · (try dsimp only [nodupN, inN, nget, sameS, sameH, sameO, SameL, look, lookB, hget, hlen, emptyC, Nat.beq, Nat.ble]) <;> and_intros <;> first | trivial | rfl | exact .inl rfl | exact .refl rfl | exact .inl ⟨rfl, rfl⟩ | exact .ms rfl rfl rfl rfl rfl | exact .ptr rfl rfl rfl rfl rfl | exact .any | exact .nil | exact .nilm | exact .bf ⟨.ptr rfl rfl rfl rfl rfl, trivial⟩ | exact .fn ⟨.ptr rfl rfl rfl rfl rfl, trivial⟩ | exact .inr ⟨rfl, rfl⟩ | exact SameC.agg ⟨.refl rfl, .tell (byD_tell _ ⟨true, []⟩ rfl) rfl, trivial⟩ | exact .tell (tellC_rw0 _ _) rfl | exact .tell (tellC_snoc rfl) rfl | exact SameC.agg (by (try dsimp only [SameL]); and_intros <;> first | trivial | exact .refl rfl | exact .ms rfl rfl rfl rfl rfl | exact .ptr rfl rfl rfl rfl rfl | exact .nil | exact .nilm | exact .any)
      · (try dsimp only [nodupN, inN, nget, sameS, sameH, sameO, SameL, look, lookB, hget, hlen, emptyC, Nat.beq, Nat.ble]) <;> and_intros <;> first | trivial | rfl | exact .inl rfl | exact .refl rfl | exact .inl ⟨rfl, rfl⟩ | exact .ms rfl rfl rfl rfl rfl | exact .ptr rfl rfl rfl rfl rfl | exact .any | exact .nil | exact .nilm | exact .bf ⟨.ptr rfl rfl rfl rfl rfl, trivial⟩ | exact .fn ⟨.ptr rfl rfl rfl rfl rfl, trivial⟩ | exact .inr ⟨rfl, rfl⟩ | exact SameC.agg ⟨.refl rfl, .tell (byD_tell _ ⟨true, []⟩ rfl) rfl, trivial⟩ | exact .tell (tellC_rw0 _ _) rfl | exact .tell (tellC_snoc rfl) rfl | exact SameC.agg (by (try dsimp only [SameL]); and_intros <;> first | trivial | exact .refl rfl | exact .ms rfl rfl rfl rfl rfl | exact .ptr rfl rfl rfl rfl rfl | exact .nil | exact .nilm | exact .any)
    · have h3 : k ≠ 1 := of_decide_eq_false h3
      have e : (if 1 < k then (1 : Int) else -1) = if 1 < k + 1 then 1 else -1 := by (repeat' split) <;> omega
      rw [e]
      refine ⟨k + 1, by omega, by omega, [some 0, some 1, some 2, some 3], rfl, ?_, by first | rfl | trivial, ?_⟩
      · (try dsimp only [nodupN, inN, nget, sameS, sameH, sameO, SameL, look, lookB, hget, hlen, emptyC, Nat.beq, Nat.ble]) <;> and_intros <;> first | trivial | rfl | exact .inl rfl | exact .refl rfl | exact .inl ⟨rfl, rfl⟩ | exact .ms rfl rfl rfl rfl rfl | exact .ptr rfl rfl rfl rfl rfl | exact .any | exact .nil | exact .nilm | exact .bf ⟨.ptr rfl rfl rfl rfl rfl, trivial⟩ | exact .fn ⟨.ptr rfl rfl rfl rfl rfl, trivial⟩ | exact .inr ⟨rfl, rfl⟩ | exact SameC.agg ⟨.refl rfl, .tell (byD_tell _ ⟨true, []⟩ rfl) rfl, trivial⟩ | exact .tell (tellC_rw0 _ _) rfl | exact .tell (tellC_snoc rfl) rfl | exact SameC.agg (by (try dsimp only [SameL]); and_intros <;> first | trivial | exact .refl rfl | exact .ms rfl rfl rfl rfl rfl | exact .ptr rfl rfl rfl rfl rfl | exact .nil | exact .nilm | exact .any)
      · (try dsimp only [nodupN, inN, nget, sameS, sameH, sameO, SameL, look, lookB, hget, hlen, emptyC, Nat.beq, Nat.ble]) <;> and_intros <;> first | trivial | rfl | exact .inl rfl | exact .refl rfl | exact .inl ⟨rfl, rfl⟩ | exact .ms rfl rfl rfl rfl rfl | exact .ptr rfl rfl rfl rfl rfl | exact .any | exact .nil | exact .nilm | exact .bf ⟨.ptr rfl rfl rfl rfl rfl, trivial⟩ | exact .fn ⟨.ptr rfl rfl rfl rfl rfl, trivial⟩ | exact .inr ⟨rfl, rfl⟩ | exact SameC.agg ⟨.refl rfl, .tell (byD_tell _ ⟨true, []⟩ rfl) rfl, trivial⟩ | exact .tell (tellC_rw0 _ _) rfl | exact .tell (tellC_snoc rfl) rfl | exact SameC.agg (by (try dsimp only [SameL]); and_intros <;> first | trivial | exact .refl rfl | exact .ms rfl rfl rfl rfl rfl | exact .ptr rfl rfl rfl rfl rfl | exact .nil | exact .nilm | exact .any)
  · have h2 : k = 18 := by have := of_decide_eq_false h2; omega
    subst h2
    rw [if_pos (by omega)]
    have c1 : s2.c 1 = ⟨⟨true, []⟩, B, true⟩ := by rw [← hs2]; dsimp only; exact updC_self _ _ _
    have wB : w64 ((B.l.length : Int) + 1) = (B.l.length : Int) + 1 := by rw [w64_in (by omega)]
    have hx := within1_in (a := cut) (b := (B.l.length : Int) + 1) (by omega)
    have lo2 := f2.low
    (repeat (first | ((first | refine RUN.sreg hsp hkp rfl (fun κ__ h__ => ?_) | refine RUN.reg hsp hkp rfl (fun κ__ h__ => ?_)); dsimp only [e8, e9, e10, e11, e12, e13, e14, e17, e18, e19, evV, vtD, rwD, recD, intlD, allB, not, evL, consG, consO, valG, valO, nilG, nilO, noMore, vtG, vtO, id, rhoC, hsetL, happ, happO, nodupC, inC, appN, Vt.o1, Vt.o2, vR, toCe_vf, By.eta, Ce.eta, Vt.eta, Rec.eta, Num.eta, Rec.C, sfn, txA, normF_vf, go_sem, Nat.succ, Int.reduceToNat, Nat.reduceAdd, Nat.reduceMul, Nat.reduceSub, Int.reduceLT, Int.reduceLE, Int.reduceNeg, UInt64.reduceToNat, UInt32.reduceToNat, UInt8.reduceToNat]; subst h__) | refine RUN.block rfl ?_ | refine RUN.skip rfl ?_ | refine RUN.ret rfl ?_ | (refine RUN.exit rfl ?_; dsimp only [xfind, xfB, Nat.beq]) | (refine RUN.seq rfl (fun κ__ h__ => ?_); subst h__) | (refine RUN.cond rfl (p := true) rfl (fun _ => ?_) (fun h__ => by cases h__)) | (refine RUN.cond rfl (p := false) rfl (fun h__ => by cases h__) (fun _ => ?_)) | refine ⟨by first | trivial | omega | (and_intros <;> first | trivial | rfl | omega) | rfl, ?_⟩))
    rw [c1]
    dsimp only
    rw [wB]
    refine ⟨by omega, ?_⟩
    generalize within1 cut ((B.l.length : Int) + 1) = x at hx ⊢
    obtain ⟨q1, q2, q3⟩ := tn_again p2 g2 rfl x (by rw [hB]; omega) true
    rw [hB, hs2] at q1 q2 q3
    have hf3 : (s2.again [x]).small := (again_fine (t := [x]) f2).small
    have c1n : (s2.c 1).now.l.length = 0 := by rw [c1]; rfl
    have c1x : (s2.c 1).nxt.l = B.l := by rw [c1]
    (repeat (first | ((first | refine RUN.sreg hsp hkp rfl (fun κ__ h__ => ?_) | refine RUN.reg hsp hkp rfl (fun κ__ h__ => ?_)); dsimp only [e8, e9, e10, e11, e12, e13, e14, e17, e18, e19, evV, vtD, rwD, recD, intlD, allB, not, evL, consG, consO, valG, valO, nilG, nilO, noMore, vtG, vtO, id, rhoC, hsetL, happ, happO, nodupC, inC, appN, Vt.o1, Vt.o2, vR, toCe_vf, By.eta, Ce.eta, Vt.eta, Rec.eta, Num.eta, Rec.C, sfn, txA, normF_vf, go_sem, Nat.succ, Int.reduceToNat, Nat.reduceAdd, Nat.reduceMul, Nat.reduceSub, Int.reduceLT, Int.reduceLE, Int.reduceNeg, UInt64.reduceToNat, UInt32.reduceToNat, UInt8.reduceToNat]; subst h__) | refine RUN.block rfl ?_ | refine RUN.skip rfl ?_ | refine RUN.ret rfl ?_ | (refine RUN.exit rfl ?_; dsimp only [xfind, xfB, Nat.beq]) | (refine RUN.seq rfl (fun κ__ h__ => ?_); subst h__) | (refine RUN.cond rfl (p := true) rfl (fun _ => ?_) (fun h__ => by cases h__)) | (refine RUN.cond rfl (p := false) rfl (fun h__ => by cases h__) (fun _ => ?_)) | refine ⟨by first | trivial | omega | (and_intros <;> first | trivial | rfl | omega) | rfl, ?_⟩))
    rw [c1x]
    refine ⟨by omega, by omega, ?_⟩
    (repeat (first | ((first | refine RUN.sreg hsp hkp rfl (fun κ__ h__ => ?_) | refine RUN.reg hsp hkp rfl (fun κ__ h__ => ?_)); dsimp only [e8, e9, e10, e11, e12, e13, e14, e17, e18, e19, evV, vtD, rwD, recD, intlD, allB, not, evL, consG, consO, valG, valO, nilG, nilO, noMore, vtG, vtO, id, rhoC, hsetL, happ, happO, nodupC, inC, appN, Vt.o1, Vt.o2, vR, toCe_vf, By.eta, Ce.eta, Vt.eta, Rec.eta, Num.eta, Rec.C, sfn, txA, normF_vf, go_sem, Nat.succ, Int.reduceToNat, Nat.reduceAdd, Nat.reduceMul, Nat.reduceSub, Int.reduceLT, Int.reduceLE, Int.reduceNeg, UInt64.reduceToNat, UInt32.reduceToNat, UInt8.reduceToNat]; subst h__) | refine RUN.block rfl ?_ | refine RUN.skip rfl ?_ | refine RUN.ret rfl ?_ | (refine RUN.exit rfl ?_; dsimp only [xfind, xfB, Nat.beq]) | (refine RUN.seq rfl (fun κ__ h__ => ?_); subst h__) | (refine RUN.cond rfl (p := true) rfl (fun _ => ?_) (fun h__ => by cases h__)) | (refine RUN.cond rfl (p := false) rfl (fun h__ => by cases h__) (fun _ => ?_)) | refine ⟨by first | trivial | omega | (and_intros <;> first | trivial | rfl | omega) | rfl, ?_⟩))
    refine RUN.cond rfl rfl (fun h3 => absurd (of_decide_eq_true h3) (by omega)) (fun h3 => ?_)
    (repeat (first | ((first | refine RUN.sreg hsp hkp rfl (fun κ__ h__ => ?_) | refine RUN.reg hsp hkp rfl (fun κ__ h__ => ?_)); dsimp only [e8, e9, e10, e11, e12, e13, e14, e17, e18, e19, evV, vtD, rwD, recD, intlD, allB, not, evL, consG, consO, valG, valO, nilG, nilO, noMore, vtG, vtO, id, rhoC, hsetL, happ, happO, nodupC, inC, appN, Vt.o1, Vt.o2, vR, toCe_vf, By.eta, Ce.eta, Vt.eta, Rec.eta, Num.eta, Rec.C, sfn, txA, normF_vf, go_sem, Nat.succ, Int.reduceToNat, Nat.reduceAdd, Nat.reduceMul, Nat.reduceSub, Int.reduceLT, Int.reduceLE, Int.reduceNeg, UInt64.reduceToNat, UInt32.reduceToNat, UInt8.reduceToNat]; subst h__) | refine RUN.block rfl ?_ | refine RUN.skip rfl ?_ | refine RUN.ret rfl ?_ | (refine RUN.exit rfl ?_; dsimp only [xfind, xfB, Nat.beq]) | (refine RUN.seq rfl (fun κ__ h__ => ?_); subst h__) | (refine RUN.cond rfl (p := true) rfl (fun _ => ?_) (fun h__ => by cases h__)) | (refine RUN.cond rfl (p := false) rfl (fun h__ => by cases h__) (fun _ => ?_)) | refine ⟨by first | trivial | omega | (and_intros <;> first | trivial | rfl | omega) | rfl, ?_⟩))
    generalize s2.again [x] = s3 at q1 q2 q3 hf3 ⊢
    have en : (s3.c 1).now.l = List.take x.toNat B.l := by rw [q1]; dsimp only; rw [catY_two]; simp
    have et : (s3.c 1).torn = false := by rw [q1]
    have e2 : List.take x.toNat (List.drop 0 (List.take x.toNat B.l)) = List.take x.toNat B.l := by rw [List.drop_zero, List.take_take, Nat.min_self]
    have e3 : (List.take x.toNat B.l).length = x.toNat := by rw [List.length_take]; omega
    rw [en, e2, et]
    refine ⟨by omega, fork_intro (fun h => absurd h (by simp)) (fun _ => ⟨by omega, ?_⟩)⟩
    (repeat (first | ((first | refine RUN.sreg hsp hkp rfl (fun κ__ h__ => ?_) | refine RUN.reg hsp hkp rfl (fun κ__ h__ => ?_)); dsimp only [e8, e9, e10, e11, e12, e13, e14, e17, e18, e19, evV, vtD, rwD, recD, intlD, allB, not, evL, consG, consO, valG, valO, nilG, nilO, noMore, vtG, vtO, id, rhoC, hsetL, happ, happO, nodupC, inC, appN, Vt.o1, Vt.o2, vR, toCe_vf, By.eta, Ce.eta, Vt.eta, Rec.eta, Num.eta, Rec.C, sfn, txA, normF_vf, go_sem, Nat.succ, Int.reduceToNat, Nat.reduceAdd, Nat.reduceMul, Nat.reduceSub, Int.reduceLT, Int.reduceLE, Int.reduceNeg, UInt64.reduceToNat, UInt32.reduceToNat, UInt8.reduceToNat]; subst h__) | refine RUN.block rfl ?_ | refine RUN.skip rfl ?_ | refine RUN.ret rfl ?_ | (refine RUN.exit rfl ?_; dsimp only [xfind, xfB, Nat.beq]) | (refine RUN.seq rfl (fun κ__ h__ => ?_); subst h__) | (refine RUN.cond rfl (p := true) rfl (fun _ => ?_) (fun h__ => by cases h__)) | (refine RUN.cond rfl (p := false) rfl (fun h__ => by cases h__) (fun _ => ?_)) | refine ⟨by first | trivial | omega | (and_intros <;> first | trivial | rfl | omega) | rfl, ?_⟩))
    have Cx : ((s2.c 1).nxt.l.length : Int) = B.l.length := by rw [c1x]
    refine RUN.cond rfl rfl (fun h4 => ?_) (fun h4 => ?_)
    · have h4 : x = ((s2.c 1).nxt.l.length : Int) := by simpa using h4
      obtain ⟨d, d1, d2⟩ := q3 (by omega)
      rw [d1]
      (repeat (first | ((first | refine RUN.sreg hsp hkp rfl (fun κ__ h__ => ?_) | refine RUN.reg hsp hkp rfl (fun κ__ h__ => ?_)); dsimp only [orZR, Option.isSome, tnB, e8, e9, e10, e11, e12, e13, e14, e17, e18, e19, evV, vtD, rwD, recD, intlD, allB, not, evL, consG, consO, valG, valO, nilG, nilO, noMore, vtG, vtO, id, rhoC, hsetL, happ, happO, nodupC, inC, appN, Vt.o1, Vt.o2, vR, toCe_vf, By.eta, Ce.eta, Vt.eta, Rec.eta, Num.eta, Rec.C, sfn, txA, normF_vf, go_sem, Nat.succ, Int.reduceToNat, Nat.reduceAdd, Nat.reduceMul, Nat.reduceSub, Int.reduceLT, Int.reduceLE, Int.reduceNeg, UInt64.reduceToNat, UInt32.reduceToNat, UInt8.reduceToNat]; subst h__) | refine RUN.block rfl ?_ | refine RUN.skip rfl ?_ | refine RUN.ret rfl ?_ | (refine RUN.exit rfl ?_; dsimp only [xfind, xfB, Nat.beq]) | (refine RUN.seq rfl (fun κ__ h__ => ?_); subst h__) | (refine RUN.cond rfl (p := true) rfl (fun _ => ?_) (fun h__ => by cases h__)) | (refine RUN.cond rfl (p := false) rfl (fun h__ => by cases h__) (fun _ => ?_)) | refine ⟨by first | trivial | omega | (and_intros <;> first | trivial | rfl | omega) | rfl, ?_⟩))
      rw [hκ]
      exact leaf_true (by show AV.bool (d.same (tnB r r0)) = _; rw [(rec_same_norm _ _).2 d2])
    · have h4 : x ≠ ((s2.c 1).nxt.l.length : Int) := by simpa using h4
      (repeat (first | ((first | refine RUN.sreg hsp hkp rfl (fun κ__ h__ => ?_) | refine RUN.reg hsp hkp rfl (fun κ__ h__ => ?_)); dsimp only [e8, e9, e10, e11, e12, e13, e14, e17, e18, e19, evV, vtD, rwD, recD, intlD, allB, not, evL, consG, consO, valG, valO, nilG, nilO, noMore, vtG, vtO, id, rhoC, hsetL, happ, happO, nodupC, inC, appN, Vt.o1, Vt.o2, vR, toCe_vf, By.eta, Ce.eta, Vt.eta, Rec.eta, Num.eta, Rec.C, sfn, txA, normF_vf, go_sem, Nat.succ, Int.reduceToNat, Nat.reduceAdd, Nat.reduceMul, Nat.reduceSub, Int.reduceLT, Int.reduceLE, Int.reduceNeg, UInt64.reduceToNat, UInt32.reduceToNat, UInt8.reduceToNat]; subst h__) | refine RUN.block rfl ?_ | refine RUN.skip rfl ?_ | refine RUN.ret rfl ?_ | (refine RUN.exit rfl ?_; dsimp only [xfind, xfB, Nat.beq]) | (refine RUN.seq rfl (fun κ__ h__ => ?_); subst h__) | (refine RUN.cond rfl (p := true) rfl (fun _ => ?_) (fun h__ => by cases h__)) | (refine RUN.cond rfl (p := false) rfl (fun h__ => by cases h__) (fun _ => ?_)) | refine ⟨by first | trivial | omega | (and_intros <;> first | trivial | rfl | omega) | rfl, ?_⟩))
      refine fork_intro (fun h5 => ?_) (fun h5 => ?_)
      · (repeat (first | ((first | refine RUN.sreg hsp hkp rfl (fun κ__ h__ => ?_) | refine RUN.reg hsp hkp rfl (fun κ__ h__ => ?_)); dsimp only [e8, e9, e10, e11, e12, e13, e14, e17, e18, e19, evV, vtD, rwD, recD, intlD, allB, not, evL, consG, consO, valG, valO, nilG, nilO, noMore, vtG, vtO, id, rhoC, hsetL, happ, happO, nodupC, inC, appN, Vt.o1, Vt.o2, vR, toCe_vf, By.eta, Ce.eta, Vt.eta, Rec.eta, Num.eta, Rec.C, sfn, txA, normF_vf, go_sem, Nat.succ, Int.reduceToNat, Nat.reduceAdd, Nat.reduceMul, Nat.reduceSub, Int.reduceLT, Int.reduceLE, Int.reduceNeg, UInt64.reduceToNat, UInt32.reduceToNat, UInt8.reduceToNat]; subst h__) | refine RUN.block rfl ?_ | refine RUN.skip rfl ?_ | refine RUN.ret rfl ?_ | (refine RUN.exit rfl ?_; dsimp only [xfind, xfB, Nat.beq]) | (refine RUN.seq rfl (fun κ__ h__ => ?_); subst h__) | (refine RUN.cond rfl (p := true) rfl (fun _ => ?_) (fun h__ => by cases h__)) | (refine RUN.cond rfl (p := false) rfl (fun h__ => by cases h__) (fun _ => ?_)) | refine ⟨by first | trivial | omega | (and_intros <;> first | trivial | rfl | omega) | rfl, ?_⟩))
        rw [hκ]; exact leaf_true rfl
      · obtain ⟨d, d1, d2⟩ := q2 (by have := of_decide_eq_false h5; omega)
        rw [d1]
        refine fork_intro (fun _ => ?_) (fun h => by cases h)
        (repeat (first | ((first | refine RUN.sreg hsp hkp rfl (fun κ__ h__ => ?_) | refine RUN.reg hsp hkp rfl (fun κ__ h__ => ?_)); dsimp only [orZR, Option.isSome, tnB, e8, e9, e10, e11, e12, e13, e14, e17, e18, e19, evV, vtD, rwD, recD, intlD, allB, not, evL, consG, consO, valG, valO, nilG, nilO, noMore, vtG, vtO, id, rhoC, hsetL, happ, happO, nodupC, inC, appN, Vt.o1, Vt.o2, vR, toCe_vf, By.eta, Ce.eta, Vt.eta, Rec.eta, Num.eta, Rec.C, sfn, txA, normF_vf, go_sem, Nat.succ, Int.reduceToNat, Nat.reduceAdd, Nat.reduceMul, Nat.reduceSub, Int.reduceLT, Int.reduceLE, Int.reduceNeg, UInt64.reduceToNat, UInt32.reduceToNat, UInt8.reduceToNat]; subst h__) | refine RUN.block rfl ?_ | refine RUN.skip rfl ?_ | refine RUN.ret rfl ?_ | (refine RUN.exit rfl ?_; dsimp only [xfind, xfB, Nat.beq]) | (refine RUN.seq rfl (fun κ__ h__ => ?_); subst h__) | (refine RUN.cond rfl (p := true) rfl (fun _ => ?_) (fun h__ => by cases h__)) | (refine RUN.cond rfl (p := false) rfl (fun h__ => by cases h__) (fun _ => ?_)) | refine ⟨by first | trivial | omega | (and_intros <;> first | trivial | rfl | omega) | rfl, ?_⟩))
        rw [hκ]
        exact leaf_true (by show AV.bool (d.same r) = _; rw [(rec_same_norm _ _).2 d2])
end Go.Abs
