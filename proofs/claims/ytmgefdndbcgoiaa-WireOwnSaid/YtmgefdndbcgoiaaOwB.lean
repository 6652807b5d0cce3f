/-
  Own work. Conditions: none. The plain law: whether a message may be, and its bytes, are the document's. Contracts: the program's reader of bytes. Contracts: a message of bytes, by the program. Contracts: a message of bytes, by t
-/
import Derived.Test.YtmgefdndbcgoiaaOwA
set_option linter.unusedVariables false
set_option linter.unusedSimpArgs false
set_option linter.unnecessarySimpa false
namespace Go.Abs
set_option maxRecDepth 100000

theorem fd_has (m : Msg) : ∀ j, j < 11 → decide (0 < ((m.fd j).b.l.length : Int)) = m.has (j + 1) := fun j hj => by
 have hw : ∀ (n : Int) (k : Nat), 0 < k ∧ k ≤ 32 → decide (0 < ((wholeB n k).l.length : Int)) = !(n == 0) := fun n k hk => by
  unfold wholeB
  by_cases h : n = 0
  ·simp [h]
  ·have : (atB (Num.from n) k).length = k := atB_len _ _ hk.2
   rw [if_neg h]
   show decide (0 < ((atB (Num.from n) k).length : Int)) = _
   rw [this, decide_eq_true (by omega)]; simp [h]
 have hf : ∀ x : Num, decide (0 < ((fourB x).l.length : Int)) = !x.isZ := fun x => by
  unfold fourB
  rw [Num.isZ_eq]
  by_cases h : x = Num.zero <;> simp [h, be4]
 rcases j with _ | _ | _ | _ | _ | _ | _ | _ | _ | _ | _ | j
 ·exact hw m.proto 1 (by omega)
 ·show decide (0 < (m.name.length : Int)) = !(m.name == [])
  cases m.name with
  | nil => rfl
  | cons a l => rw [decide_eq_true (by simp only [List.length_cons]; omega)]; simp
 ·exact hf m.a
 ·exact hf m.b
 ·rfl
 ·rfl
 ·rfl
 ·rfl
 ·rfl
 ·exact hw m.channel 8 (by omega)
 ·exact hw m.e 1 (by omega)
 ·omega
def Codes (L : List Int) : Prop := ∃ K : Nat, ofTo L L.length = (K : Int) ∧ K < 4096 ∧ ∀ n, n < 12 → K.testBit n = decide ((n : Int) ∈ L)
theorem codes_of {L : List Int} (K : Nat) (h1 : ofTo L L.length = (K : Int)) (h2 : K < 4096) (h3 : ((List.range 12).all fun n => K.testBit n == decide ((n : Int) ∈ L)) = true) : Codes L :=
 ⟨K, h1, h2, fun n hn => by have := List.all_eq_true.1 h3 n (List.mem_range.2 hn); simpa using this⟩
theorem wantL_codes (m : Msg) : Codes (wantL m) := by
 have key : ∀ (c : Prop) [Decidable c] (a b : List Int), Codes a → Codes b → Codes (if c then a else b) := fun c _ a b h1 h2 => by by_cases h : c <;> simp [h, h1, h2]
 unfold wantL
 have c0 : Codes [] := codes_of 0 (by decide) (by decide) (by decide)
 have c1 : Codes [1, 2, 3, 4] := codes_of 30 (by decide) (by decide) (by decide)
 have c2 : Codes [1, 2, 3] := codes_of 14 (by decide) (by decide) (by decide)
 have c3 : Codes [1, 3, 4, 6] := codes_of 90 (by decide) (by decide) (by decide)
 have c4 : Codes [1, 4, 5] := codes_of 50 (by decide) (by decide) (by decide)
 have c5 : Codes [7] := codes_of 128 (by decide) (by decide) (by decide)
 have c6 : Codes [7, 8] := codes_of 384 (by decide) (by decide) (by decide)
 have c7 : Codes [8] := codes_of 256 (by decide) (by decide) (by decide)
 have c8 : Codes [11] := codes_of 2048 (by decide) (by decide) (by decide)
 have c9 : Codes [1, 2, 9] := codes_of 518 (by decide) (by decide) (by decide)
 have c10 : Codes [8, 10] := codes_of 1280 (by decide) (by decide) (by decide)
 have c11 : Codes [1, 8, 9] := codes_of 770 (by decide) (by decide) (by decide)
 repeat' (first | assumption | apply key)
theorem there_want (m : Msg) : ((m.thereTo 12 : Int) == ofTo (wantL m) (wantL m).length) = true ↔ ∀ j, j < 11 → m.has (j + 1) = decide (((j + 1 : Nat) : Int) ∈ wantL m) := by
 obtain ⟨K, h1, h2, h3⟩ := wantL_codes m
 rw [h1, beq_iff_eq]
 have hlt := m.thereTo_lt 12
 constructor
 ·intro h j hj
  have h : m.thereTo 12 = K := by omega
  have := there_test m 12 (j + 1)
  rw [h, h3 (j + 1) (by omega), show decide (j + 1 < 12) = true from decide_eq_true (by omega), Bool.true_and] at this
  exact this.symm
 ·intro h
  have : m.thereTo 12 = K := by
   apply Nat.eq_of_testBit_eq
   intro n
   rw [there_test]
   by_cases hn : n < 12
   ·rw [h3 n hn, decide_eq_true hn, Bool.true_and]
    cases n with
    | zero =>
      have h0 : ((0 : Nat) : Int) ∉ wantL m := fun hm => by
       have key : ∀ (c : Prop) [Decidable c] (a b : List Int), (0 : Int) ∉ a → (0 : Int) ∉ b → (0 : Int) ∉ (if c then a else b) := fun c _ a b h1 h2 => by by_cases h : c <;> simp [h, h1, h2]
       revert hm
       show (0 : Int) ∉ wantL m
       unfold wantL
       repeat' (first | apply key | (simp; done))
      rw [decide_eq_false h0]; rfl
    | succ j => exact h j (by omega)
   ·have h4 : (2 : Nat) ^ 12 ≤ 2 ^ n := Nat.pow_le_pow_right (by omega) (by omega)
    rw [decide_eq_false hn, Bool.false_and, Nat.testBit_lt_two_pow (show K < 2 ^ n by omega)]
  omega
theorem goodTo_iff (m : Msg) : ∀ n, m.goodTo n = true ↔ ∀ j, j < n → m.good j = true
 | 0 => by simp [Msg.goodTo]
 | n + 1 => by
   simp only [Msg.goodTo, Bool.and_eq_true, goodTo_iff m n]
   constructor
   ·rintro ⟨h1, h2⟩ j hj
    by_cases e : j = n
    ·rw [e]; exact h2
    ·exact h1 j (by omega)
   ·intro h; exact ⟨fun j hj => h j (by omega), h n (by omega)⟩
theorem right_eq (m : Msg) : m.rightW = m.rightR := by
 rw [Bool.eq_iff_iff]
 unfold Msg.rightW Msg.rightR
 simp only [Bool.and_eq_true, goodTo_iff, Bool.not_eq_true', decide_eq_false_iff_not]
 have hk : ∀ j, j < 11 → (m.fd j).k = ((j + 1 : Nat) : Int) := fun j hj => by
  rcases j with _ | _ | _ | _ | _ | _ | _ | _ | _ | _ | _ | j <;> first | rfl | omega
 have hgood : ∀ j, j < 11 → (m.good j = true ↔ (m.fd j).ok = true ∧ m.has (j + 1) = decide (((j + 1 : Nat) : Int) ∈ wantL m)) := fun j hj => by
  unfold Msg.good
  rw [Bool.and_eq_true, fd_has m j hj, hk j hj, beq_iff_eq]
 have hoks : (∀ j, j < 11 → (m.fd j).ok = true) ↔ (m.ok1 = true ∧ m.ok2 = true ∧ m.a.low = true ∧ m.b.low = true ∧ m.okR = true) := by
  unfold Msg.okR
  simp only [Bool.and_eq_true]
  constructor
  ·intro h
   have h9 := h 10 (by omega)
   simp only [Msg.fd, Bool.and_eq_true] at h9
   exact ⟨h 0 (by omega), h 1 (by omega), h 2 (by omega), h 3 (by omega), h 4 (by omega), h 5 (by omega), h 6 (by omega), h 7 (by omega), h 8 (by omega), h 9 (by omega), h9.1, h9.2⟩
  ·rintro ⟨h0, h1, h2, h3, h4, h5, h6, h7, h8, h9, h10, h11⟩ j hj
   rcases j with _ | _ | _ | _ | _ | _ | _ | _ | _ | _ | _ | j
   ·exact h0
   ·exact h1
   ·exact h2
   ·exact h3
   ·exact h4
   ·exact h5
   ·exact h6
   ·exact h7
   ·exact h8
   ·exact h9
   ·simp only [Msg.fd, h10, h11]; rfl
   ·omega
 have h1 : m.ok1 = true ↔ ¬ m.proto < 0 ∧ ¬ 2 < m.proto := by
  unfold Msg.ok1; simp only [Bool.and_eq_true, decide_eq_true_eq]; omega
 constructor
 ·rintro ⟨k1, k2, k3⟩
  have ho := hoks.1 fun j hj => ((hgood j hj).1 (k3 j hj)).1
  refine ⟨?_, (h1.1 ho.1).1, (h1.1 ho.1).2, ho.2.1, ho.2.2.1, ho.2.2.2.1, ho.2.2.2.2⟩
  rw [wantN, if_pos (by omega), there_want]
  exact fun j hj => ((hgood j hj).1 (k3 j hj)).2
 ·rintro ⟨k1, k2, k3, k4, k5, k6, k7⟩
  have hkind : 1 ≤ m.kind ∧ m.kind ≤ 12 := by
   by_cases h : 1 ≤ m.kind ∧ m.kind ≤ 12
   ·exact h
   ·rw [wantN, if_neg h, beq_iff_eq] at k1; omega
  rw [wantN, if_pos hkind, there_want] at k1
  have ho := hoks.2 ⟨h1.2 ⟨k2, k3⟩, k4, k5, k6, k7⟩
  exact ⟨by omega, by omega, fun j hj => (hgood j hj).2 ⟨ho j hj, k1 j hj⟩⟩
open Go.Proofs
set_option maxRecDepth 100000

structure Rd where
 b : By
 bad : Bool
def Rd.A (r : Rd) : AV := .agg [r.b.A, .bool r.bad]
def rdD : AV → Option Rd
 | .agg [x, .bool bad] => match byD x with | some b => some ⟨b, bad⟩ | none => none
 | _ => none
theorem rdD_tellC (a : AV) (r : Rd) (h : rdD a = some r) : TellC a r.A := by
 unfold rdD at h
 split at h
 ·split at h
  ·rename_i hb; cases h; exact TellC.agg ⟨byD_tell _ _ hb, Tell.refl _, trivial⟩
  ·cases h
 ·cases h
theorem rdD_tell (a : AV) (r : Rd) (h : rdD a = some r) : Tell a r.A := by
 unfold rdD at h
 split at h
 ·split at h
  ·rename_i hb; cases h; exact Tell.agg ⟨byD_tell _ _ hb, Tell.refl _, trivial⟩
  ·cases h
 ·cases h
def kRd : Kd Rd := ⟨rdD, Rd.A, rdD_tell, fun _ => rfl⟩
theorem Rd.eta (r : Rd) : Rd.mk r.b r.bad = r := rfl
def Rd.fits (r : Rd) (n : Int) : Bool := !decide (n < 0) && !decide ((r.b.l.length : Int) < n)
def Rd.got (r : Rd) (n : Int) : By := match r.fits n with | true => ⟨r.b.nil, r.b.l.take n.toNat⟩ | false => ⟨true, []⟩
def Rd.next (r : Rd) (n : Int) : Rd := match r.fits n with | true => ⟨⟨r.b.nil, r.b.l.drop n.toNat⟩, r.bad⟩ | false => ⟨⟨true, []⟩, true⟩
theorem Rd.got_le (r : Rd) (n : Int) : (r.got n).l.length ≤ r.b.l.length := by
 unfold Rd.got; split
 ·simp; omega
 ·simp
theorem Rd.next_le (r : Rd) (n : Int) : (r.next n).b.l.length ≤ r.b.l.length := by
 unfold Rd.next; split
 ·simp
 ·simp
theorem fn51 (r : Rd) (n : Int) (hr : r.b.l.length ≤ 1099511627776) : ACalls Try.prog 51 [.ptr 0 0 0, .int n] [⟨0, r.A, false⟩] (fun a h => a = (r.got n).A ∧ h = [⟨0, (r.next n).A, false⟩]) := by
 refine ACalls.tell (K := fun a h => byD a = some (r.got n) ∧ ∃ c, h = [⟨0, c, false⟩] ∧ rdD c = some (r.next n)) ?_ ?_
 ·refine o51.run (Γ := GK 1 keep51 [(64, e64)]) (own := false) (kn := 1) (.cons ok64 o64.enter .nil) (Nat.le_of_ble_eq_true rfl) rfl (Nat.le_refl _) ?_
  dsimp only [c51, keep51, res51, Rd.A, e64, By.eta, go_sem, Nat.succ, Int.reduceToNat, Nat.reduceAdd, Nat.reduceMul, Nat.reduceSub, Int.reduceLT, Int.reduceLE, Int.reduceNeg, UInt64.reduceToNat, UInt32.reduceToNat, UInt8.reduceToNat]
  have bad : r.fits n = false → (some { nil := true, l := [] } = some (r.got n) ∧ ∃ c, ([⟨0, AV.agg [AV.sl true 0 0 (AV.agg []) true, AV.bool true], false⟩] : List AO) = [⟨0, c, false⟩] ∧ rdD c = some (r.next n)) := fun h =>
   ⟨by rw [Rd.got, h], _, rfl, by rw [Rd.next, h]; rfl⟩
  refine fork_intro (fun h => bad (by rw [Rd.fits, h]; rfl)) (fun h => fork_intro (fun h2 => bad (by rw [Rd.fits, h2]; simp)) (fun h2 => ?_))
  have hf : r.fits n = true := by rw [Rd.fits, h, h2]; rfl
  have h := of_decide_eq_false h
  have h2 := of_decide_eq_false h2
  refine ⟨by omega, by omega, by rw [List.length_take]; omega, by rw [Rd.got, hf], _, rfl, ?_⟩
  rw [Rd.next, hf]; rfl
 ·rintro a h ⟨h1, c, rfl, h2⟩
  exact ⟨_, _, ⟨rfl, rfl⟩, byD_tell _ _ h1, ⟨rfl, rfl, rdD_tellC _ _ h2⟩, trivial⟩
def e51 : SpE := ⟨true, evP rdD Rd.A (l1D intD) (fun r _ => some (r.b.l.length ≤ 1099511627776)) (fun r n => (r.got n).A) (fun r n => r.next n)⟩
theorem ok51 : SpE.ok Try.prog 51 e51 := evP_ok kRd rdD_tellC (kl1 kInt) (fun _ _ => rfl) (fun r n h => fn51 r n h)
def Rd.num (r : Rd) (n : Int) : Num := Num.read (r.got n).l
def Num.i64 (x : Num) : Int := w64 ((UInt64.ofNat x.a0.toNat ||| UInt64.ofNat ((UInt64.ofNat x.a1.toNat).toNat * 2 ^ min 32 64)).toNat : Int)
theorem fn67 (r : Rd) (n : Int) (hr : r.b.l.length ≤ 1099511627776) : ACalls Try.prog 67 [.ptr 0 0 0, .int n] [⟨0, r.A, false⟩] (fun a h => a = .agg (r.num n).C ∧ h = [⟨0, (r.next n).A, false⟩]) := by
 refine o67.run (Γ := GK 1 keep67 [(51, e51), (84, e84)]) (own := false) (kn := 1) (.cons ok51 o51.enter (.cons ok84 o84.enter .nil)) (Nat.le_of_ble_eq_true rfl) rfl (Nat.le_refl _) ?_
 dsimp only [c67, keep67, res67, Rd.A, rdD, e51, e84, By.eta, Rd.eta, go_sem, Nat.succ, Int.reduceToNat, Nat.reduceAdd, Nat.reduceMul, Nat.reduceSub, Int.reduceLT, Int.reduceLE, Int.reduceNeg, UInt64.reduceToNat, UInt32.reduceToNat, UInt8.reduceToNat]
 and_intros <;> first | trivial | rfl | omega
def e67 : SpE := ⟨true, evP rdD Rd.A (l1D intD) (fun r _ => some (r.b.l.length ≤ 1099511627776)) (fun r n => .agg (r.num n).C) (fun r n => r.next n)⟩
theorem ok67 : SpE.ok Try.prog 67 e67 := evP_ok kRd rdD_tellC (kl1 kInt) (fun _ _ => rfl) (fun r n h => fn67 r n h)
theorem fn52 (r : Rd) (n : Int) (hr : r.b.l.length ≤ 1099511627776) : ACalls Try.prog 52 [.ptr 0 0 0, .int n] [⟨0, r.A, false⟩] (fun a h => a = .int (r.num n).i64 ∧ h = [⟨0, (r.next n).A, false⟩]) := by
 refine o52.run (Γ := GK 1 keep52 [(67, e67)]) (own := false) (kn := 1) (.cons ok67 o67.enter .nil) (Nat.le_of_ble_eq_true rfl) rfl (Nat.le_refl _) ?_
 dsimp only [c52, keep52, res52, Rd.A, rdD, e67, By.eta, Rd.eta, go_sem, Nat.succ, Int.reduceToNat, Nat.reduceAdd, Nat.reduceMul, Nat.reduceSub, Int.reduceLT, Int.reduceLE, Int.reduceNeg, UInt64.reduceToNat, UInt32.reduceToNat, UInt8.reduceToNat]
 and_intros <;> first | trivial | rfl | omega
def e52 : SpE := ⟨true, evP rdD Rd.A (l1D intD) (fun r _ => some (r.b.l.length ≤ 1099511627776)) (fun r n => .int (r.num n).i64) (fun r n => r.next n)⟩
theorem ok52 : SpE.ok Try.prog 52 e52 := evP_ok kRd rdD_tellC (kl1 kInt) (fun _ _ => rfl) (fun r n h => fn52 r n h)
def Rd.long (r : Rd) : By := (r.next 1).got (r.num 1).i64
def Rd.nextL (r : Rd) : Rd := (r.next 1).next (r.num 1).i64
theorem fn54 (r : Rd) (hr : r.b.l.length ≤ 1099511627776) : ACalls Try.prog 54 [.ptr 0 0 0] [⟨0, r.A, false⟩] (fun a h => a = r.long.A ∧ h = [⟨0, r.nextL.A, false⟩]) := by
 have h2 := r.next_le 1
 refine o54.run (Γ := GK 1 keep54 [(51, e51), (52, e52)]) (own := false) (kn := 1) (.cons ok51 o51.enter (.cons ok52 o52.enter .nil)) (Nat.le_of_ble_eq_true rfl) rfl (Nat.le_refl _) ?_
 dsimp only [c54, keep54, res54, Rd.A, rdD, e51, e52, By.eta, Rd.eta, go_sem, Nat.succ, Int.reduceToNat, Nat.reduceAdd, Nat.reduceMul, Nat.reduceSub, Int.reduceLT, Int.reduceLE, Int.reduceNeg, UInt64.reduceToNat, UInt32.reduceToNat, UInt8.reduceToNat]
 and_intros <;> first | trivial | rfl | omega
def e54 : SpE := ⟨true, evP rdD Rd.A l0D (fun r _ => some (r.b.l.length ≤ 1099511627776)) (fun r _ => r.long.A) (fun r _ => r.nextL)⟩
theorem ok54 : SpE.ok Try.prog 54 e54 := evP_ok kRd rdD_tellC kl0 (fun _ _ => rfl) (fun r n h => fn54 r h)

def Msg.put (m : Msg) (k : Int) (b : By) : Msg :=
 if k = 1 then { m with proto := ((Rd.mk b false).num 1).i64 } else if k = 2 then { m with name := b.l } else if k = 3 then { m with a := (Rd.mk b false).num 4 } else if k = 4 then { m with b := (Rd.mk b false).num 4 }
 else if k = 5 then { m with salt := b } else if k = 6 then { m with sea := b } else if k = 7 then { m with tag := b } else if k = 8 then { m with tok := b } else if k = 9 then { m with rcd := b }
 else if k = 10 then { m with channel := ((Rd.mk b false).num 8).i64 } else if k = 11 then { m with e := ((Rd.mk b false).num 1).i64 } else m
theorem msgD_tellC (a : AV) (m : Msg) (h : msgD a = some m) : TellC a (.agg m.C) := by
 unfold msgD at h
 split at h
 ·split at h
  ·rename_i h1
   split at h
   ·rename_i h2
    split at h
    ·rename_i h3
     split at h
     ·rename_i h4
      split at h
      ·rename_i h5
       cases h
       refine TellC.agg ?_
       simp only [Msg.C, TellL]
       exact ⟨Tell.refl _, Tell.refl _, Tell.refl _, Tell.refl _, Tell.refl _, Tell.refl _, Tell.refl _, Tell.refl _, Tell.refl _, Tell.refl _, Tell.refl _, Tell.refl _, Tell.refl _, Tell.refl _, Tell.refl _, Tell.refl _,
        Tell.refl _, Tell.refl _, Tell.refl _, Tell.refl _, Tell.refl _, byD_tell _ _ h1, byD_tell _ _ h2, byD_tell _ _ h3, byD_tell _ _ h4, byD_tell _ _ h5, trivial⟩
      ·cases h
     ·cases h
    ·cases h
   ·cases h
  ·cases h
 ·cases h
set_option maxHeartbeats 4000000 in
theorem fn53 (m : Msg) (k : Int) (b : By) (hb : b.l.length ≤ 1099511627776) : ACalls Try.prog 53 [.ptr 0 0 0, .int k, b.A] [⟨0, .agg m.C, false⟩] (fun a h => a = .bool (decide (1 ≤ k) && decide (k ≤ 11)) ∧ h = [⟨0, .agg (m.put k b).C, false⟩]) := by
 refine ACalls.tell (K := fun a h => a = .bool (decide (1 ≤ k) && decide (k ≤ 11)) ∧ ∃ c, h = [⟨0, c, false⟩] ∧ msgD c = some (m.put k b)) ?_ ?_
 ·refine o53.run (Γ := GK 1 keep53 [(52, e52), (67, e67)]) (own := false) (kn := 1) (.cons ok52 o52.enter (.cons ok67 o67.enter .nil)) (Nat.le_of_ble_eq_true rfl) rfl (Nat.le_refl _) ?_
  dsimp only [c53, keep53, res53, Msg.C, rdD, e52, e67, By.eta, Rd.eta, Rd.A, go_sem, Nat.succ, Int.reduceToNat, Nat.reduceAdd, Nat.reduceMul, Nat.reduceSub, Int.reduceLT, Int.reduceLE, Int.reduceNeg, UInt64.reduceToNat, UInt32.reduceToNat, UInt8.reduceToNat]
  refine fork_intro (fun h => ?_) (fun h1 => ?_)
  ·obtain rfl : k = 1 := eq_of_beq h
   and_intros <;> first | exact hb | rfl | trivial | omega | exact ⟨_, rfl, rfl⟩
  refine fork_intro (fun h => ?_) (fun h2 => ?_)
  ·obtain rfl : k = 2 := eq_of_beq h
   and_intros <;> first | exact hb | rfl | trivial | omega | exact ⟨_, rfl, rfl⟩
  refine fork_intro (fun h => ?_) (fun h3 => ?_)
  ·obtain rfl : k = 3 := eq_of_beq h
   and_intros <;> first | exact hb | rfl | trivial | omega | exact ⟨_, rfl, rfl⟩
  refine fork_intro (fun h => ?_) (fun h4 => ?_)
  ·obtain rfl : k = 4 := eq_of_beq h
   and_intros <;> first | exact hb | rfl | trivial | omega | exact ⟨_, rfl, rfl⟩
  refine fork_intro (fun h => ?_) (fun h5 => ?_)
  ·obtain rfl : k = 5 := eq_of_beq h
   and_intros <;> first | exact hb | rfl | trivial | omega | exact ⟨_, rfl, rfl⟩
  refine fork_intro (fun h => ?_) (fun h6 => ?_)
  ·obtain rfl : k = 6 := eq_of_beq h
   and_intros <;> first | exact hb | rfl | trivial | omega | exact ⟨_, rfl, rfl⟩
  refine fork_intro (fun h => ?_) (fun h7 => ?_)
  ·obtain rfl : k = 7 := eq_of_beq h
   and_intros <;> first | exact hb | rfl | trivial | omega | exact ⟨_, rfl, rfl⟩
  refine fork_intro (fun h => ?_) (fun h8 => ?_)
  ·obtain rfl : k = 8 := eq_of_beq h
   and_intros <;> first | exact hb | rfl | trivial | omega | exact ⟨_, rfl, rfl⟩
  refine fork_intro (fun h => ?_) (fun h9 => ?_)
  ·obtain rfl : k = 9 := eq_of_beq h
   and_intros <;> first | exact hb | rfl | trivial | omega | exact ⟨_, rfl, rfl⟩
  refine fork_intro (fun h => ?_) (fun h10 => ?_)
  ·obtain rfl : k = 10 := eq_of_beq h
   and_intros <;> first | exact hb | rfl | trivial | omega | exact ⟨_, rfl, rfl⟩
  refine fork_intro (fun h => ?_) (fun h11 => ?_)
  ·obtain rfl : k = 11 := eq_of_beq h
   and_intros <;> first | exact hb | rfl | trivial | omega | exact ⟨_, rfl, rfl⟩
  simp only [beq_eq_false_iff_ne, ne_eq] at *
  have e : (decide (1 ≤ k) && decide (k ≤ 11)) = false := by
   rw [Bool.and_eq_false_iff, decide_eq_false_iff_not, decide_eq_false_iff_not]; omega
  and_intros <;> first | exact hb | rfl | trivial | omega | (rw [e]; done) | skip
  refine ⟨_, rfl, ?_⟩
  simp only [Msg.put, *, if_false]
  rfl
 ·rintro a h ⟨h1, c, rfl, h2⟩
  exact ⟨_, _, ⟨h1, rfl⟩, Tell.refl _, ⟨rfl, rfl, msgD_tellC _ _ h2⟩, trivial⟩
def e53 : SpE := ⟨true, evP msgD (fun m => .agg m.C) (l2D intD byD) (fun _ x => some (x.2.l.length ≤ 1099511627776)) (fun _ x => .bool (decide (1 ≤ x.1) && decide (x.1 ≤ 11))) (fun m x => m.put x.1 x.2)⟩
theorem l2D_tell {α β : Type} (k1 : Kd α) (k2 : Kd β) (a : List AV) (x : α × β) (h : l2D k1.dec k2.dec a = some x) : TellL a [k1.enc x.1, k2.enc x.2] := by
 unfold l2D at h
 split at h
 ·split at h
  ·rename_i y hy
   split at h
   ·rename_i z hz; cases h; exact ⟨k1.tell _ _ hy, k2.tell _ _ hz, trivial⟩
   ·cases h
  ·cases h
 ·cases h
def kl2 {α β : Type} (k1 : Kd α) (k2 : Kd β) : KL (α × β) := ⟨l2D k1.dec k2.dec, fun x => [k1.enc x.1, k2.enc x.2], l2D_tell k1 k2, fun x => by simp [belowL, k1.below, k2.below]⟩
theorem ok53 : SpE.ok Try.prog 53 e53 := evP_ok kMsg msgD_tellC (kl2 kInt kBy) (fun _ _ => rfl) (fun m x h => fn53 m x.1 x.2 h)
open Go.Proofs
set_option maxRecDepth 100000

def By.no : By := ⟨true, []⟩
def Msg.zero : Msg := ⟨0, 0, 0, 0, [], Num.zero, Num.zero, By.no, By.no, By.no, By.no, By.no⟩
def decLoop : Nat → Msg → Rd → Option Msg
 | 0, m, _ => some m
 | n + 1, m, r => match r.bad || r.b.l.isEmpty with
   | true => some m
   | false => match decide (1 ≤ (r.num 1).i64) && decide ((r.num 1).i64 ≤ 11) with
     | true => decLoop n (m.put (r.num 1).i64 (r.next 1).long) (r.next 1).nextL
     | false => none
def msg0 (b : By) : Msg := { Msg.zero with kind := (((Rd.mk b false).next 2).num 1).i64 }
def rd0 (b : By) : Rd := ((Rd.mk b false).next 2).next 1
def decW (b : By) : Option Msg := match decLoop (rd0 b).b.l.length (msg0 b) (rd0 b) with
 | some m => match m.isW && (m.outW.l == b.l) with | true => some m | false => none
 | none => none
def orZ : Option Msg → Msg | some m => m | none => Msg.zero
theorem next_lt (r : Rd) (h : r.b.l ≠ []) : (r.next 1).nextL.b.l.length < r.b.l.length := by
 have h1 : (r.next 1).b.l.length < r.b.l.length := by
  have : 0 < r.b.l.length := List.length_pos_iff.2 h
  unfold Rd.next
  split
  ·simp; omega
  ·simp; omega
 have h2 := (r.next 1).next_le 1
 have h3 := ((r.next 1).next 1).next_le ((r.next 1).num 1).i64
 unfold Rd.nextL; omega
theorem decLoop_more : ∀ (n k : Nat) (m : Msg) (r : Rd), r.b.l.length ≤ n → decLoop (n + k) m r = decLoop n m r
 | 0, k, m, r, h => by
   have : r.b.l = [] := List.eq_nil_of_length_eq_zero (by omega)
   cases k with
   | zero => rfl
   | succ k => simp [decLoop, this]
 | n + 1, k, m, r, h => by
   rw [show n + 1 + k = n + k + 1 by omega]
   simp only [decLoop]
   cases hb : (r.bad || r.b.l.isEmpty) with
   | true => rfl
   | false =>
     have hne : r.b.l ≠ [] := by intro e; rw [e] at hb; simp at hb
     have := next_lt r hne
     simp only
     split
     ·exact decLoop_more n k _ _ (by omega)
     ·rfl
def isMsg (a : AV) (m : Msg) : Prop := msgD a = some m
theorem fin_none {x : AV} {d : Option Msg} (hx : isMsg x Msg.zero) (e : d = none) : ∃ a, AV.tup [x, .bool false] = .tup [a, .bool d.isSome] ∧ isMsg a (orZ d) := ⟨x, by rw [e]; rfl, by rw [e]; exact hx⟩
theorem fin_some {x : AV} {d : Option Msg} {m : Msg} (hx : isMsg x m) (e : d = some m) : ∃ a, AV.tup [x, .bool true] = .tup [a, .bool d.isSome] ∧ isMsg a (orZ d) := ⟨x, by rw [e]; rfl, by rw [e]; exact hx⟩
def L20 (b : By) : LI where
 X := Msg × Rd
 x0 := (msg0 b, rd0 b)
 pre x := x.2.b.l.length ≤ 1099511627776 ∧ decLoop x.2.b.l.length x.1 x.2 = decLoop (rd0 b).b.l.length (msg0 b) (rd0 b)
 inv x := ([(0, b.A), (2, .ptr 0 0 0), (3, .bool false), (4, .ptr 1 0 0), (5, .ptr 2 0 0)], [⟨0, .agg Msg.zero.C, false⟩, ⟨0, x.2.A, false⟩, ⟨0, .agg x.1.C, false⟩])
 mu x := x.2.b.l.length
 ren := false
set_option maxHeartbeats 4000000 in
theorem fn20 (b : By) (hb : b.l.length ≤ 1099511627776) : ACalls Try.prog 20 [b.A] [] (fun r h => r = .tup [.agg (orZ (decW b)).C, .bool (decW b).isSome] ∧ h = []) := by
 refine ACalls.tell (K := fun r h => (∃ a, r = .tup [a, .bool (decW b).isSome] ∧ isMsg a (orZ (decW b))) ∧ h = []) ?_ ?_
 ·refine o20.run (Γ := GL keep20 [(17, e17), (51, e51), (52, e52), (53, e53), (54, e54), (55, e55)] fun _ => L20 b) (own := false) (kn := 0) (.cons ok17 o17.enter (.cons ok51 o51.enter (.cons ok52 o52.enter (.cons ok53 o53.enter (.cons ok54 o54.enter (.cons ok55 o55.enter .nil)))))) (Nat.le_of_ble_eq_true rfl) rfl (Nat.le_refl _) ?_
  dsimp only [c20, keep20, res20, L20, Msg.C, Rd.A, rdD, msgD, e17, e51, e52, e53, e54, e55, Num.eta, By.eta, Rd.eta, Msg.eta, go_sem, Nat.succ, Int.reduceToNat, Nat.reduceAdd, Nat.reduceMul, Nat.reduceSub, Int.reduceLT, Int.reduceLE, Int.reduceNeg, UInt64.reduceToNat, UInt32.reduceToNat, UInt8.reduceToNat]
  have n2 := (Rd.mk b false).next_le 2
  have n1 := ((Rd.mk b false).next 2).next_le 1
  have hb' : (Rd.mk b false).b.l.length ≤ 1099511627776 := hb
  refine ⟨hb, by omega, rfl, ⟨⟨?_, ?_⟩, ?_, rfl⟩, fun x hx => ?_⟩
  ·and_intros <;> first | rfl | trivial
  ·refine ⟨⟨rfl, rfl, .tell (msgD_tellC _ Msg.zero rfl)⟩, ⟨rfl, rfl, .inl rfl⟩, ⟨rfl, rfl, .tell (msgD_tellC _ (msg0 b) rfl)⟩, trivial⟩
  ·show ((Rd.mk b false).next 2 |>.next 1).b.l.length ≤ _; omega
  obtain ⟨m, r⟩ := x
  obtain ⟨hx1, hx2⟩ := hx
  simp only at hx1 hx2 ⊢
  have s1 := r.next_le 1
  have s2 := (r.next 1).next_le 1
  have s3 := ((r.next 1).next 1).next_le ((r.next 1).num 1).i64
  have s4 := ((r.next 1).next 1).got_le ((r.next 1).num 1).i64
  have lst : ∀ d, decLoop (rd0 b).b.l.length (msg0 b) (rd0 b) = d → decW b = match d with | some m => (match m.isW && (m.outW.l == b.l) with | true => some m | false => none) | none => none := fun d hd => by rw [decW, hd]
  have ends : (r.bad || r.b.l.isEmpty) = true → decLoop (rd0 b).b.l.length (msg0 b) (rd0 b) = some m := fun h => by
   rw [← hx2]
   cases r.b.l.length with
   | zero => rfl
   | succ n => rw [decLoop, h]
  have stop : (r.bad || r.b.l.isEmpty) = true → decW b = (match m.isW && (m.outW.l == b.l) with | true => some m | false => none) := fun h => lst _ (ends h)
  have go : (r.bad || r.b.l.isEmpty) = false → ∃ n, r.b.l.length = n + 1 ∧ decLoop (rd0 b).b.l.length (msg0 b) (rd0 b) = (match decide (1 ≤ (r.num 1).i64) && decide ((r.num 1).i64 ≤ 11) with
    | true => decLoop n (m.put (r.num 1).i64 (r.next 1).long) (r.next 1).nextL | false => none) := fun h => by
   rw [← hx2]
   cases hl : r.b.l.length with
   | zero => rw [List.eq_nil_of_length_eq_zero hl] at h; simp at h
   | succ n => exact ⟨n, rfl, by rw [decLoop, h]⟩
  refine fork_intro (fun h => fork_intro (fun h2 => ?_) (fun h2 => ?_)) (fun h => ?_)
  ·have h2 := of_decide_eq_true h2
   have hbe : (r.bad || r.b.l.isEmpty) = false := by
    rw [not_t h, Bool.false_or]
    cases hl : r.b.l with
    | nil => rw [hl] at h2; simp at h2
    | cons a l => rfl
   obtain ⟨n, hn, hd⟩ := go hbe
   refine ⟨hx1, by omega, by show ((r.next 1).next 1 |>.got ((r.next 1).num 1).i64).l.length ≤ _; omega, fork_intro (fun h3 => ?_) (fun h3 => ?_)⟩
   ·rw [not_t h3] at hd
    have e := lst _ hd
    and_intros <;> first | trivial | exact Nat.zero_le _ | exact fin_none rfl e
   ·rw [not_f h3] at hd
    have hlt := next_lt r (by intro e; rw [e] at h2; simp at h2)
    refine ⟨(m.put (r.num 1).i64 (r.next 1).long, (r.next 1).nextL), ⟨by simp only; omega, ?_⟩, hlt, ?_, ?_⟩
    ·rw [hd]
     have := decLoop_more (r.next 1).nextL.b.l.length (n - (r.next 1).nextL.b.l.length) (m.put (r.num 1).i64 (r.next 1).long) (r.next 1).nextL (Nat.le_refl _)
     rw [show (r.next 1).nextL.b.l.length + (n - (r.next 1).nextL.b.l.length) = n by omega] at this
     exact this.symm
    ·and_intros <;> trivial
    ·and_intros <;> first | trivial | exact .inl rfl
  ·have h2 := of_decide_eq_false h2
   have hl : r.b.l = [] := List.eq_nil_of_length_eq_zero (by omega)
   have e := stop (by rw [hl]; simp)
   refine fork_intro (fun h3 => ?_) (fun h3 => fork_intro (fun h4 => ?_) (fun h4 => ?_))
   ·rw [not_t h3, Bool.false_and] at e
    and_intros <;> first | trivial | exact Nat.zero_le _ | exact fin_none rfl e
   ·rw [not_f h3, not_t h4, Bool.true_and] at e
    and_intros <;> first | trivial | exact Nat.zero_le _ | exact fin_none rfl e
   ·rw [not_f h3, not_f h4, Bool.true_and] at e
    and_intros <;> first | trivial | exact Nat.zero_le _ | exact fin_some rfl e
  ·have e := stop (by rw [not_f h]; rfl)
   refine fork_intro (fun h3 => ?_) (fun h3 => fork_intro (fun h4 => ?_) (fun h4 => ?_))
   ·rw [not_t h3, Bool.false_and] at e
    and_intros <;> first | trivial | exact Nat.zero_le _ | exact fin_none rfl e
   ·rw [not_f h3, not_t h4, Bool.true_and] at e
    and_intros <;> first | trivial | exact Nat.zero_le _ | exact fin_none rfl e
   ·rw [not_f h3, not_f h4, Bool.true_and] at e
    and_intros <;> first | trivial | exact Nat.zero_le _ | exact fin_some rfl e
 ·rintro r h1 ⟨⟨a, rfl, h2⟩, rfl⟩
  exact ⟨_, _, ⟨rfl, rfl⟩, Tell.tup ⟨msgD_tell _ _ h2, Tell.refl _, trivial⟩, TellH.refl _⟩
def e20 : SpE := ⟨true, ev1 byD (fun b => some (b.l.length ≤ 1099511627776)) fun b => .tup [.agg (orZ (decW b)).C, .bool (decW b).isSome]⟩
theorem ok20 : SpE.ok Try.prog 20 e20 := ev1_ok kBy (fun _ => rfl) (fun b h => fn20 b h)
open Go.Proofs
set_option maxRecDepth 100000

def cut32 (l : List UInt8) : List UInt8 := l.take ((if (32 : Int) < (l.length : Int) then 32 else (l.length : Int)).toNat)
def Msg.setR (m : Msg) (k : Int) (b : By) : Msg :=
 if k = 1 then { m with proto := numR b.l } else if k = 2 then { m with name := b.l } else if k = 3 then { m with a := Num.read (cut32 b.l) } else if k = 4 then { m with b := Num.read (cut32 b.l) }
 else if k = 5 then { m with salt := ⟨false, b.l⟩ } else if k = 6 then { m with sea := ⟨false, b.l⟩ } else if k = 7 then { m with tag := ⟨false, b.l⟩ } else if k = 8 then { m with tok := ⟨false, b.l⟩ } else if k = 9 then { m with rcd := ⟨false, b.l⟩ }
 else if k = 10 then { m with channel := numR b.l } else if k = 11 then { m with e := numR b.l } else m
set_option maxHeartbeats 8000000 in
theorem fn56 (m : Msg) (k : Int) (b : By) (hb : b.l.length ≤ 1099511627776) : ACalls Try.prog 56 [.agg m.C, .int k, b.A] [] (fun a h => a = .agg (m.setR k b).C ∧ h = []) := by
 refine ACalls.tell (K := fun a h => isMsg a (m.setR k b) ∧ h = []) ?_ ?_
 ·refine o56.run (Γ := G0 keep56 [(68, e68), (70, e70)]) (own := false) (kn := 0) (.cons ok68 o68.enter (.cons ok70 o70.enter .nil)) (Nat.le_of_ble_eq_true rfl) rfl (Nat.le_refl _) ?_
  dsimp only [c56, keep56, res56, Msg.C, e68, e70, By.eta, go_sem, Nat.succ, Int.reduceToNat, Nat.reduceAdd, Nat.reduceMul, Nat.reduceSub, Int.reduceLT, Int.reduceLE, Int.reduceNeg, UInt64.reduceToNat, UInt32.reduceToNat, UInt8.reduceToNat]
  simp only [List.drop_zero, List.take_length]
  refine ⟨by split <;> omega, by first | rfl | trivial, by omega, ?_⟩
  refine fork_intro (fun h => ?_) (fun h1 => ?_)
  ·obtain rfl : k = 1 := eq_of_beq h
   and_intros <;> first | trivial | rfl | omega
  refine fork_intro (fun h => ?_) (fun h2 => ?_)
  ·obtain rfl : k = 2 := eq_of_beq h
   and_intros <;> first | trivial | rfl | omega
  refine fork_intro (fun h => ?_) (fun h3 => ?_)
  ·obtain rfl : k = 3 := eq_of_beq h
   and_intros <;> first | trivial | rfl | omega
  refine fork_intro (fun h => ?_) (fun h4 => ?_)
  ·obtain rfl : k = 4 := eq_of_beq h
   and_intros <;> first | trivial | rfl | omega
  refine fork_intro (fun h => ?_) (fun h5 => ?_)
  ·obtain rfl : k = 5 := eq_of_beq h
   and_intros <;> first | trivial | rfl | omega
  refine fork_intro (fun h => ?_) (fun h6 => ?_)
  ·obtain rfl : k = 6 := eq_of_beq h
   and_intros <;> first | trivial | rfl | omega
  refine fork_intro (fun h => ?_) (fun h7 => ?_)
  ·obtain rfl : k = 7 := eq_of_beq h
   and_intros <;> first | trivial | rfl | omega
  refine fork_intro (fun h => ?_) (fun h8 => ?_)
  ·obtain rfl : k = 8 := eq_of_beq h
   and_intros <;> first | trivial | rfl | omega
  refine fork_intro (fun h => ?_) (fun h9 => ?_)
  ·obtain rfl : k = 9 := eq_of_beq h
   and_intros <;> first | trivial | rfl | omega
  refine fork_intro (fun h => ?_) (fun h10 => ?_)
  ·obtain rfl : k = 10 := eq_of_beq h
   and_intros <;> first | trivial | rfl | omega
  refine fork_intro (fun h => ?_) (fun h11 => ?_)
  ·obtain rfl : k = 11 := eq_of_beq h
   and_intros <;> first | trivial | rfl | omega
  simp only [beq_eq_false_iff_ne, ne_eq] at *
  and_intros <;> first | trivial | rfl | omega | skip
  have e : m.setR k b = m := by simp only [Msg.setR, *, if_false]
  rw [e]; rfl
 ·rintro a h ⟨h1, rfl⟩
  exact ⟨_, _, ⟨rfl, rfl⟩, msgD_tell _ _ h1, trivial⟩
def e56 : SpE := ⟨true, ev3 msgD intD byD (fun _ _ b => some (b.l.length ≤ 1099511627776)) fun m k b => .agg (m.setR k b).C⟩
theorem ok56 : SpE.ok Try.prog 56 e56 := ev3_ok kMsg kInt kBy (fun _ _ _ => rfl) (fun m k b h => fn56 m k b h)
def decLoopR (b : By) : Nat → Msg → Nat → Msg
 | 0, m, _ => m
 | n + 1, m, a => match decide (a + 2 ≤ b.l.length) && decide (a + 2 + (b.l.getD (a + 1) 0).toNat ≤ b.l.length) with
   | true => decLoopR b n (m.setR ((b.l.getD a 0).toNat : Int) ⟨b.nil, (b.l.drop (a + 2)).take (b.l.getD (a + 1) 0).toNat⟩) (a + 2 + (b.l.getD (a + 1) 0).toNat)
   | false => m
def msgR (b : By) : Msg := { Msg.zero with kind := ((b.l.getD 2 0).toNat : Int) }
def decR (b : By) : Option Msg := match decide (b.l.length < 3) with
 | true => none
 | false => match (decLoopR b b.l.length (msgR b) 3).isR && ((decLoopR b b.l.length (msgR b) 3).outR.l == b.l) with
   | true => some (decLoopR b b.l.length (msgR b) 3)
   | false => none
theorem setR_name (m : Msg) (k : Int) (b : By) : (m.setR k b).name.length ≤ m.name.length ∨ (m.setR k b).name = b.l := by
 have key : ∀ (c : Prop) [Decidable c] (x y : Msg), (x.name.length ≤ m.name.length ∨ x.name = b.l) → (y.name.length ≤ m.name.length ∨ y.name = b.l) → ((if c then x else y).name.length ≤ m.name.length ∨ (if c then x else y).name = b.l) := fun c _ x y h1 h2 => by
  by_cases h : c
  ·rw [if_pos h]; exact h1
  ·rw [if_neg h]; exact h2
 unfold Msg.setR
 repeat' (first | exact .inr rfl | exact .inl (Nat.le_refl _) | apply key)
def L23 (b : By) : LI where
 X := Msg × Nat
 x0 := (msgR b, 3)
 pre x := x.1.name.length ≤ b.l.length ∧ 3 ≤ x.2 ∧ x.2 ≤ b.l.length ∧ decLoopR b (b.l.length - x.2) x.1 x.2 = decLoopR b (b.l.length - 3) (msgR b) 3
 inv x := ([(0, b.A), (2, .ptr 0 0 0), (3, .bool false), (4, .ptr 1 0 0), (5, .int x.2)], [⟨0, .agg Msg.zero.C, false⟩, ⟨0, .agg x.1.C, false⟩])
 mu x := b.l.length - x.2
 ren := false
set_option maxHeartbeats 4000000 in
theorem fn23 (b : By) (hb : b.l.length ≤ 1099511627776) : ACalls Try.prog 23 [b.A] [] (fun r h => r = .tup [.agg (orZ (decR b)).C, .bool (decR b).isSome] ∧ h = []) := by
 refine ACalls.tell (K := fun r h => (∃ a, r = .tup [a, .bool (decR b).isSome] ∧ isMsg a (orZ (decR b))) ∧ h = []) ?_ ?_
 ·refine o23.run (Γ := GL keep23 [(18, e18), (56, e56)] fun _ => L23 b) (own := false) (kn := 0) (.cons ok18 o18.enter (.cons ok56 o56.enter .nil)) (Nat.le_of_ble_eq_true rfl) rfl (Nat.le_refl _) ?_
  dsimp only [c23, keep23, res23, L23, Msg.C, msgD, e18, e56, Num.eta, By.eta, Msg.eta, go_sem, Nat.succ, Int.reduceToNat, Nat.reduceAdd, Nat.reduceMul, Nat.reduceSub, Int.reduceLT, Int.reduceLE, Int.reduceNeg, UInt64.reduceToNat, UInt32.reduceToNat, UInt8.reduceToNat]
  have h0 : ∀ {d : Option Msg}, decR b = d → decR b = d := fun h => h
  refine fork_intro (fun h => ?_) (fun h => ?_)
  ·have h := of_decide_eq_true h
   have e : decR b = none := by rw [decR, decide_eq_true (show b.l.length < 3 by omega)]
   and_intros <;> first | trivial | rfl | exact Nat.zero_le _ | exact fin_none rfl e
  have h := of_decide_eq_false h
  have e0 : decR b = (match (decLoopR b b.l.length (msgR b) 3).isR && ((decLoopR b b.l.length (msgR b) 3).outR.l == b.l) with
    | true => some (decLoopR b b.l.length (msgR b) 3) | false => none) := by rw [decR, decide_eq_false (show ¬ b.l.length < 3 by omega)]
  refine ⟨by omega, by simp, rfl, ⟨⟨?_, ?_⟩, ?_⟩, fun x hx => ?_⟩
  ·and_intros <;> first | rfl | trivial
  ·refine ⟨⟨rfl, rfl, .tell (msgD_tellC _ Msg.zero rfl)⟩, ⟨rfl, rfl, .tell (msgD_tellC _ (msgR b) rfl)⟩, trivial⟩
  ·exact ⟨Nat.zero_le _, by omega, by omega, rfl⟩
  obtain ⟨m, a⟩ := x
  obtain ⟨hx1, hx2, hx3, hx4⟩ := hx
  simp only at hx1 hx2 hx3 hx4 ⊢
  have e1 : w64 ((a : Int) + 1) = ((a + 1 : Nat) : Int) := by rw [w64_in (by omega)]; omega
  have e2 : w64 ((a : Int) + 2) = ((a + 2 : Nat) : Int) := by rw [w64_in (by omega)]; omega
  have hL : (b.l.getD (a + 1) 0).toNat < 256 := (b.l.getD (a + 1) 0).toNat_lt
  have e3 : w64 (((a + 2 : Nat) : Int) + ((b.l.getD (a + 1) 0).toNat : Int)) = ((a + 2 + (b.l.getD (a + 1) 0).toNat : Nat) : Int) := by rw [w64_in (by omega)]; omega
  have sgl : ∀ x : UInt8, [x].getD 0 0 = x := fun _ => rfl
  simp only [e1, e2, Int.toNat_natCast, sgl, e3, Nat.add_sub_cancel_left]
  have hnext : ∀ c, (decide (a + 2 ≤ b.l.length) && decide (a + 2 + (b.l.getD (a + 1) 0).toNat ≤ b.l.length)) = c → a < b.l.length → decLoopR b (b.l.length - a) m a = (match c with
    | true => decLoopR b (b.l.length - a - 1) (m.setR ((b.l.getD a 0).toNat : Int) ⟨b.nil, (b.l.drop (a + 2)).take (b.l.getD (a + 1) 0).toNat⟩) (a + 2 + (b.l.getD (a + 1) 0).toNat)
    | false => m) := fun c hc hlt => by
   rw [show b.l.length - a = (b.l.length - a - 1) + 1 by omega, decLoopR, hc]
   rfl
  have more : ∀ (n k : Nat) (m : Msg) (a : Nat), b.l.length - a ≤ n → decLoopR b (n + k) m a = decLoopR b n m a := fun n => by
   induction n with
   | zero =>
     intro k m a h
     cases k with
     | zero => rfl
     | succ k =>
       have hf : decide (a + 2 ≤ b.l.length) = false := decide_eq_false (by omega)
       rw [Nat.zero_add]; simp only [decLoopR, hf, Bool.false_and]
   | succ n ih =>
     intro k m a h
     rw [show n + 1 + k = n + k + 1 by omega]
     simp only [decLoopR]
     split
     ·exact ih k _ _ (by omega)
     ·rfl
  have stop : decLoopR b (b.l.length - a) m a = m → decR b = (match m.isR && (m.outR.l == b.l) with | true => some m | false => none) := fun h => by
   have h3 : decLoopR b b.l.length (msgR b) 3 = m := by
    have := more (b.l.length - 3) 3 (msgR b) 3 (Nat.le_refl _)
    rw [show b.l.length - 3 + 3 = b.l.length by omega] at this
    rw [this, ← hx4, h]
   rw [e0, h3]
  refine fork_intro (fun h1 => ⟨?_, ?_, fork_intro (fun h2 => ?_) (fun h2 => ?_)⟩) (fun h1 => ?_)
  ·have h1 := of_decide_eq_true h1; omega
  ·simp
  ·have h1 := of_decide_eq_true h1
   have h2 := of_decide_eq_true h2
   refine ⟨by omega, by simp, by omega, by simp, by omega, by rw [List.length_take]; omega, trivial, (m.setR ((b.l.getD a 0).toNat : Int) ⟨b.nil, (b.l.drop (a + 2)).take (b.l.getD (a + 1) 0).toNat⟩, a + 2 + (b.l.getD (a + 1) 0).toNat), ⟨?_, by simp only; omega, by simp only; omega, ?_⟩, by simp only; omega, ?_, ?_⟩
   rotate_left
   ·have := hnext true (by rw [decide_eq_true (show a + 2 ≤ b.l.length by omega), decide_eq_true (show a + 2 + (b.l.getD (a + 1) 0).toNat ≤ b.l.length by omega)]; rfl) (by omega)
    rw [← hx4, this]
    have hm := more (b.l.length - (a + 2 + (b.l.getD (a + 1) 0).toNat)) (b.l.length - a - 1 - (b.l.length - (a + 2 + (b.l.getD (a + 1) 0).toNat))) (m.setR ((b.l.getD a 0).toNat : Int) ⟨b.nil, (b.l.drop (a + 2)).take (b.l.getD (a + 1) 0).toNat⟩) (a + 2 + (b.l.getD (a + 1) 0).toNat) (Nat.le_refl _)
    rw [show b.l.length - (a + 2 + (b.l.getD (a + 1) 0).toNat) + (b.l.length - a - 1 - (b.l.length - (a + 2 + (b.l.getD (a + 1) 0).toNat))) = b.l.length - a - 1 by omega] at hm
    exact hm.symm
   ·and_intros <;> first | rfl | trivial
   ·and_intros <;> first | rfl | trivial | exact .inl rfl
   ·rcases setR_name m ((b.l.getD a 0).toNat : Int) ⟨b.nil, (b.l.drop (a + 2)).take (b.l.getD (a + 1) 0).toNat⟩ with hh | hh
    ·exact Nat.le_trans hh hx1
    ·show (m.setR _ _).name.length ≤ _
     rw [hh, List.length_take, List.length_drop]; omega
  ·have h1 := of_decide_eq_true h1
   have h2 := of_decide_eq_false h2
   have e := stop (hnext false (by rw [decide_eq_false (show ¬ a + 2 + (b.l.getD (a + 1) 0).toNat ≤ b.l.length by omega), Bool.and_false]) (by omega))
   refine ⟨by omega, fork_intro (fun h3 => ?_) (fun h3 => fork_intro (fun h4 => ?_) (fun h4 => ?_))⟩
   ·rw [not_t h3, Bool.false_and] at e
    and_intros <;> first | trivial | exact Nat.zero_le _ | exact fin_none rfl e
   ·rw [not_f h3, not_t h4, Bool.true_and] at e
    and_intros <;> first | trivial | exact Nat.zero_le _ | exact fin_none rfl e
   ·rw [not_f h3, not_f h4, Bool.true_and] at e
    and_intros <;> first | trivial | exact Nat.zero_le _ | exact fin_some rfl e
  ·have h1 := of_decide_eq_false h1
   have e := stop (by
    rcases Nat.lt_or_ge a b.l.length with hlt | hge
    ·exact hnext false (by rw [decide_eq_false (show ¬ a + 2 ≤ b.l.length by omega), Bool.false_and]) hlt
    ·rw [show b.l.length - a = 0 by omega]; rfl)
   refine ⟨by omega, fork_intro (fun h3 => ?_) (fun h3 => fork_intro (fun h4 => ?_) (fun h4 => ?_))⟩
   ·rw [not_t h3, Bool.false_and] at e
    and_intros <;> first | trivial | exact Nat.zero_le _ | exact fin_none rfl e
   ·rw [not_f h3, not_t h4, Bool.true_and] at e
    and_intros <;> first | trivial | exact Nat.zero_le _ | exact fin_none rfl e
   ·rw [not_f h3, not_f h4, Bool.true_and] at e
    and_intros <;> first | trivial | exact Nat.zero_le _ | exact fin_some rfl e
 ·rintro r h1 ⟨⟨a, rfl, h2⟩, rfl⟩
  exact ⟨_, _, ⟨rfl, rfl⟩, Tell.tup ⟨msgD_tell _ _ h2, Tell.refl _, trivial⟩, TellH.refl _⟩
def e23 : SpE := ⟨true, ev1 byD (fun b => some (b.l.length ≤ 1099511627776)) fun b => .tup [.agg (orZ (decR b)).C, .bool (decR b).isSome]⟩
theorem ok23 : SpE.ok Try.prog 23 e23 := ev1_ok kBy (fun _ => rfl) (fun b h => fn23 b h)
open Go.Proofs
set_option maxRecDepth 100000

structure Rec where
 proto : Int
 name : List UInt8
 salt : By
 v : Num
 key : Num
 sea : By
 toks : Int
 at_ : Int
 rev : Int
def Rec.C (r : Rec) : List AV := [.int r.proto, .str r.name, r.salt.A, .u32 r.v.a0, .u32 r.v.a1, .u32 r.v.a2, .u32 r.v.a3, .u32 r.v.a4, .u32 r.v.a5, .u32 r.v.a6, .u32 r.v.a7,
 .u32 r.key.a0, .u32 r.key.a1, .u32 r.key.a2, .u32 r.key.a3, .u32 r.key.a4, .u32 r.key.a5, .u32 r.key.a6, .u32 r.key.a7, r.sea.A, .int r.toks, .int r.at_, .int r.rev]
def recD : AV → Option Rec
 | .agg [.int p, .str s, x1, .u32 a0, .u32 a1, .u32 a2, .u32 a3, .u32 a4, .u32 a5, .u32 a6, .u32 a7, .u32 b0, .u32 b1, .u32 b2, .u32 b3, .u32 b4, .u32 b5, .u32 b6, .u32 b7, x2, .int t, .int c, .int e] =>
   match byD x1 with
   | some y1 => match byD x2 with
     | some y2 => some ⟨p, s, y1, ⟨a0, a1, a2, a3, a4, a5, a6, a7⟩, ⟨b0, b1, b2, b3, b4, b5, b6, b7⟩, y2, t, c, e⟩
     | none => none
   | none => none
 | _ => none
theorem recD_tellL (a : AV) (m : Rec) (h : recD a = some m) : ∃ l, a = .agg l ∧ TellL l m.C := by
 unfold recD at h
 split at h
 ·split at h
  ·rename_i h1
   split at h
   ·rename_i h2
    cases h
    refine ⟨_, rfl, ?_⟩
    simp only [Rec.C, TellL]
    exact ⟨Tell.refl _, Tell.refl _, byD_tell _ _ h1, Tell.refl _, Tell.refl _, Tell.refl _, Tell.refl _, Tell.refl _, Tell.refl _, Tell.refl _, Tell.refl _, Tell.refl _, Tell.refl _, Tell.refl _, Tell.refl _, Tell.refl _,
     Tell.refl _, Tell.refl _, Tell.refl _, byD_tell _ _ h2, Tell.refl _, Tell.refl _, Tell.refl _, trivial⟩
   ·cases h
  ·cases h
 ·cases h
theorem recD_tell (a : AV) (m : Rec) (h : recD a = some m) : Tell a (.agg m.C) := by
 obtain ⟨l, rfl, hl⟩ := recD_tellL a m h; exact Tell.agg hl
theorem recD_tellC (a : AV) (m : Rec) (h : recD a = some m) : TellC a (.agg m.C) := by
 obtain ⟨l, rfl, hl⟩ := recD_tellL a m h; exact TellC.agg hl
def kRec : Kd Rec := ⟨recD, fun m => .agg m.C, recD_tell, fun _ => rfl⟩
theorem Rec.eta (r : Rec) : Rec.mk r.proto r.name r.salt r.v r.key r.sea r.toks r.at_ r.rev = r := rfl

def Rec.ok (r : Rec) : Bool := decide (1 ≤ r.proto) && (decide (r.proto ≤ 2) && (nameOK r.name && (decide (r.salt.l.length ≤ 16) && (decide (r.sea.l.length ≤ 48) && (r.v.low && (r.key.low && (decide (0 ≤ r.toks) && (decide (r.toks ≤ 255) && (decide (0 ≤ r.at_) && decide (0 ≤ r.rev))))))))))
def longB (l : List UInt8) : List UInt8 := UInt8.ofInt (l.length : Int) :: l
def Rec.w1 (r : Rec) : List UInt8 := [UInt8.ofInt r.proto] ++ [UInt8.ofInt (r.name.length : Int)] ++ r.name
def Rec.w2 (r : Rec) : List UInt8 := r.w1 ++ [UInt8.ofInt (r.salt.l.length : Int)] ++ r.salt.l
def Rec.w3 (r : Rec) : List UInt8 := r.w2 ++ [UInt8.ofInt (r.sea.l.length : Int)] ++ r.sea.l
def Rec.outL (r : Rec) (e : Int → List UInt8) (f : Num → List UInt8) : List UInt8 := r.w3 ++ f r.v ++ f r.key ++ [UInt8.ofInt r.toks] ++ e r.at_ ++ e r.rev
def Rec.outW (r : Rec) : By := match r.ok with | true => ⟨false, r.outL (fun n => atB (Num.from n) 8) (fun x => atB x 4)⟩ | false => ⟨true, []⟩
def Rec.outR (r : Rec) : By := match r.ok with | true => ⟨false, r.outL (fun n => eightTo n 8) (fun x => be4 x.a0)⟩ | false => ⟨true, []⟩
def Rec.part (r : Rec) : Nat → List UInt8
 | 0 => [UInt8.ofInt r.proto]
 | 1 => r.w1
 | 2 => r.w2
 | _ => r.w3
theorem fork_and {p q : Bool} {a b : Prop} (h1 : p = true → q = true → a) (h2 : (p = false ∨ q = false) → b) : fork p (fork q a b) b :=
 fork_intro (fun h => fork_intro (fun k => h1 h k) (fun k => h2 (.inr k))) (fun h => h2 (.inl h))
theorem Rec.oks {r : Rec} (h : r.ok = true) : 1 ≤ r.proto ∧ r.proto ≤ 2 ∧ nameOK r.name = true ∧ r.salt.l.length ≤ 16 ∧ r.sea.l.length ≤ 48 ∧ r.v.low = true ∧ r.key.low = true ∧ 0 ≤ r.toks ∧ r.toks ≤ 255 ∧ 0 ≤ r.at_ ∧ 0 ≤ r.rev := by
 simpa only [Rec.ok, Bool.and_eq_true, decide_eq_true_eq] using h
theorem Rec.bad {r : Rec} (k : r.ok = true → False) : r.ok = false := by cases h : r.ok with | true => exact (k h).elim | false => rfl
theorem bits_low (x : Num) : decide (32 < (x.bits : Int)) = !x.low := by
 have := x.bits_le
 cases h : x.low with
 | true => exact decide_eq_false (by have := this.2 h; omega)
 | false => exact decide_eq_true (by
    have : ¬ x.bits ≤ 32 := fun k => by rw [this.1 k] at h; cases h
    omega)
def isBy (a : AV) (b : By) : Prop := byD a = some b
def L35 (r : Rec) : LI where
 X := Nat
 x0 := 1
 pre i := 1 ≤ i ∧ i ≤ 3
 inv i := ([(1, .ptr 0 0 0), (4, .ms false 1 0 0 (r.part i).length 1), (76, .sl false 3 1 (.agg [.sl false r.name.length 1 (.ab r.name) false, r.salt.A, r.sea.A]) true), (77, .int 3), (78, .int (ilit i))], [⟨0, .agg r.C, false⟩, ⟨0, .ab (r.part i), false⟩])
 mu i := 12 - i
 ren := true
 peel := true
 fin := some [1, 2, 3]
set_option maxHeartbeats 4000000 in
theorem fn35 (r : Rec) : ACalls Try.prog 35 [.agg r.C] [] (fun a h => a = .tup [r.outW.A, .bool r.ok] ∧ h = []) := by
 refine ACalls.tell (K := fun a h => (∃ x, a = .tup [x, .bool r.ok] ∧ isBy x r.outW) ∧ h = []) ?_ ?_
 ·refine o35.run (Γ := GL keep35 [(60, e60), (61, e61), (62, e62), (63, e63), (64, e64)] fun _ => L35 r) (own := false) (kn := 0) (.cons ok60 o60.enter (.cons ok61 o61.enter (.cons ok62 o62.enter (.cons ok63 o63.enter (.cons ok64 o64.enter .nil))))) (Nat.le_of_ble_eq_true rfl) rfl (Nat.le_refl _) ?_
  dsimp only [c35, keep35, res35, L35, Rec.C, ilit, e60, e61, e62, e63, e64, Num.eta, By.eta, go_sem, Nat.succ, Int.reduceToNat, Nat.reduceAdd, Nat.reduceMul, Nat.reduceSub, Int.reduceLT, Int.reduceLE, Int.reduceNeg, UInt64.reduceToNat, UInt32.reduceToNat, UInt8.reduceToNat]
  simp only [bits_low]
  have bad : (r.ok = true → False) → True ∧ True ∧ 0 ≤ 1 ∧ (∃ x, AV.tup [AV.sl true 0 0 (.agg []) true, AV.bool false] = AV.tup [x, AV.bool r.ok] ∧ isBy x r.outW) ∧ True := fun h => ⟨trivial, trivial, by omega, ⟨_, by rw [Rec.bad h], by rw [Rec.outW, Rec.bad h]; rfl⟩, trivial⟩
  refine fork_and (fun h1 h2 => bad fun k => ?_) (fun h1 => fork_intro (fun h2 => bad fun k => ?_) fun h2 => fork_intro (fun h3 => bad fun k => ?_) fun h3 => fork_intro (fun h4 => bad fun k => ?_) fun h4 =>
   fork_intro (fun h5 => bad fun k => ?_) fun h5 => fork_intro (fun h6 => bad fun k => ?_) fun h6 => fork_intro (fun h7 => bad fun k => ?_) fun h7 => fork_intro (fun h8 => bad fun k => ?_) fun h8 =>
   fork_intro (fun h9 => bad fun k => ?_) fun h9 => fork_intro (fun h10 => bad fun k => ?_) fun h10 => ?_)
  ·have := r.oks k
   simp at h1 h2; omega
  ·rw [(r.oks k).2.2.1] at h2; cases h2
  ·have := r.oks k; have := of_decide_eq_true h3; omega
  ·have := r.oks k; have := of_decide_eq_true h4; omega
  ·rw [(r.oks k).2.2.2.2.2.1] at h5; cases h5
  ·rw [(r.oks k).2.2.2.2.2.2.1] at h6; cases h6
  ·have := r.oks k; have := of_decide_eq_true h7; omega
  ·have := r.oks k; have := of_decide_eq_true h8; omega
  ·have := r.oks k; have := of_decide_eq_true h9; omega
  ·have := r.oks k; have := of_decide_eq_true h10; omega
  have hp : r.proto = 1 ∨ r.proto = 2 := by simpa using h1
  have h2 : nameOK r.name = true := by simpa using h2
  have h3 := of_decide_eq_false h3
  have h4 := of_decide_eq_false h4
  have h5 : r.v.low = true := by simpa using h5
  have h6 : r.key.low = true := by simpa using h6
  have h7 := of_decide_eq_false h7
  have h8 := of_decide_eq_false h8
  have h9 := of_decide_eq_false h9
  have h10 := of_decide_eq_false h10
  have hok : r.ok = true := by
   simp only [Rec.ok, Bool.and_eq_true, decide_eq_true_eq]
   and_intros <;> first | assumption | omega
  have hn := nameOK_len h2
  have n1 : r.w1.length = 2 + r.name.length := by simp [Rec.w1]; omega
  have n2 : r.w2.length = r.w1.length + 1 + r.salt.l.length := by simp only [Rec.w2, List.length_append, List.length_cons, List.length_nil]
  have n3 : r.w3.length = r.w2.length + 1 + r.sea.l.length := by simp only [Rec.w3, List.length_append, List.length_cons, List.length_nil]
  have p1 : r.part 1 = r.w1 := rfl
  have p2 : r.part 2 = r.w2 := rfl
  have p3 : r.part 3 = r.w3 := rfl
  have tk : ∀ (k : Nat) (l : List UInt8), 0 < k → l.take (k * l.length) = l := fun k l h => take_all (.inl (by omega))
  have t1 := tk r.w1.length r.w1 (by omega)
  have t2 := tk r.w2.length r.w2 (by omega)
  have t3 := tk r.w3.length r.w3 (by omega)
  rw [tk 2 ([UInt8.ofInt r.proto] ++ [UInt8.ofInt (r.name.length : Int)]) (by omega)]
  rw [p1, p2, p3, t1, t2, t3]
  rw [tk (r.w1.length + 1) (r.w1 ++ [UInt8.ofInt (r.salt.l.length : Int)]) (by omega), tk (r.w2.length + 1) (r.w2 ++ [UInt8.ofInt (r.sea.l.length : Int)]) (by omega)]
  rw [← n2, ← n3]
  refine ⟨fork_intro (fun _ => ?_) (fun h => by cases h), fun x hx => ?_, fork_intro (fun _ => ?_) (fun h => by cases h), fork_intro (fun _ => ?_) (fun h => by cases h), fork_intro (fun h => by cases h) (fun _ => ?_), trivial⟩
  ·refine ⟨by omega, by omega, ⟨rfl, by omega⟩, 1, by omega, [some 0, some 1], by first | rfl | trivial, ?_, by first | rfl | trivial, ?_⟩
   ·rw [← n1]
    and_intros <;> first | trivial | rfl | exact .refl rfl | exact .ms rfl rfl rfl rfl rfl | exact .ptr rfl rfl rfl rfl rfl | exact .inl ⟨rfl, rfl⟩ | exact .inl rfl
   ·and_intros <;> first | trivial | rfl | exact .refl rfl | exact .ms rfl rfl rfl rfl rfl | exact .ptr rfl rfl rfl rfl rfl | exact .inl ⟨rfl, rfl⟩ | exact .inl rfl
  ·obtain ⟨x1, x2⟩ := hx
   rcases x with _ | _ | _ | _ | x <;> first | (simp; done) | omega
  ·refine ⟨by omega, ⟨by simp, by omega⟩, ⟨by simp, by omega⟩, 2, by omega, by omega, [some 0, some 1], by first | rfl | trivial, ?_, by first | rfl | trivial, ?_⟩
   all_goals and_intros <;> first | trivial | rfl | exact .refl rfl | exact .ms rfl rfl rfl rfl rfl | exact .ptr rfl rfl rfl rfl rfl | exact .inl ⟨rfl, rfl⟩ | exact .inl rfl
  ·refine ⟨by omega, ⟨by simp, by omega⟩, ⟨by simp, by omega⟩, 3, by omega, by omega, [some 0, some 1], by first | rfl | trivial, ?_, by first | rfl | trivial, ?_⟩
   all_goals and_intros <;> first | trivial | rfl | exact .refl rfl | exact .ms rfl rfl rfl rfl rfl | exact .ptr rfl rfl rfl rfl rfl | exact .inl ⟨rfl, rfl⟩ | exact .inl rfl
  ·rw [tk (r.w3.length + 4) (r.w3 ++ atB r.v 4) (by omega), tk (r.w3.length + 4 + 4) (r.w3 ++ atB r.v 4 ++ atB r.key 4) (by omega), tk (r.w3.length + 4 + 4 + 1) (r.w3 ++ atB r.v 4 ++ atB r.key 4 ++ [UInt8.ofInt r.toks]) (by omega),
    tk (r.w3.length + 4 + 4 + 1 + 8) (r.w3 ++ atB r.v 4 ++ atB r.key 4 ++ [UInt8.ofInt r.toks] ++ atB (Num.from r.at_) 8) (by omega)]
   have q1 : (r.w3 ++ atB r.v 4).length = r.w3.length + 4 := by rw [List.length_append, atB_len _ _ (by omega)]
   have q2 : (r.w3 ++ atB r.v 4 ++ atB r.key 4).length = r.w3.length + 4 + 4 := by rw [List.length_append, atB_len _ _ (by omega), q1]
   have q3 : (r.w3 ++ atB r.v 4 ++ atB r.key 4 ++ [UInt8.ofInt r.toks]).length = r.w3.length + 4 + 4 + 1 := by rw [List.length_append, q2]; rfl
   have q4 : (r.w3 ++ atB r.v 4 ++ atB r.key 4 ++ [UInt8.ofInt r.toks] ++ atB (Num.from r.at_) 8).length = r.w3.length + 4 + 4 + 1 + 8 := by rw [List.length_append, atB_len _ _ (by omega), q3]
   have q5 : (r.w3 ++ atB r.v 4 ++ atB r.key 4 ++ [UInt8.ofInt r.toks] ++ atB (Num.from r.at_) 8 ++ atB (Num.from r.rev) 8).length = r.w3.length + 4 + 4 + 1 + 8 + 8 := by rw [List.length_append, atB_len _ _ (by omega), q4]
   refine ⟨by omega, ⟨rfl, by omega⟩, by omega, ⟨by omega, by omega⟩, ⟨by omega, by omega⟩, by omega, ⟨by omega, by omega⟩, by omega, ⟨by omega, by omega⟩, ?_⟩
   rw [← q5, List.drop_zero, List.take_length]
   refine ⟨⟨by omega, by omega⟩, trivial, trivial, by omega, ⟨_, by rw [hok], by rw [Rec.outW, hok]; rfl⟩, trivial⟩
 ·rintro a h ⟨⟨x, rfl, h1⟩, rfl⟩
  exact ⟨_, _, ⟨rfl, rfl⟩, Tell.tup ⟨byD_tell _ _ h1, Tell.refl _, trivial⟩, TellH.refl _⟩
def e35 : SpE := ⟨true, ev1 recD (fun _ => none) fun r => .tup [r.outW.A, .bool r.ok]⟩
theorem ok35 : SpE.ok Try.prog 35 e35 := ev1_ok kRec (fun _ => rfl) (fun r _ => fn35 r)
open Go.Proofs
set_option maxRecDepth 100000

set_option maxHeartbeats 4000000 in
theorem fn36 (r : Rec) (hs : r.name.length ≤ 1099511627776) : ACalls Try.prog 36 [.agg r.C] [] (fun a h => a = .tup [r.outR.A, .bool r.ok] ∧ h = []) := by
 refine ACalls.tell (K := fun a h => (∃ x, a = .tup [x, .bool r.ok] ∧ isBy x r.outR) ∧ h = []) ?_ ?_
 ·refine o36.run (Γ := G0 keep36 [(58, e58), (59, e59), (65, e65), (66, e66)]) (own := false) (kn := 0) (.cons ok58 o58.enter (.cons ok59 o59.enter (.cons ok65 o65.enter (.cons ok66 o66.enter .nil)))) (Nat.le_of_ble_eq_true rfl) rfl (Nat.le_refl _) ?_
  dsimp only [c36, keep36, res36, Rec.C, e58, e59, e65, e66, Num.eta, By.eta, go_sem, Nat.succ, Int.reduceToNat, Nat.reduceAdd, Nat.reduceMul, Nat.reduceSub, Int.reduceLT, Int.reduceLE, Int.reduceNeg, UInt64.reduceToNat, UInt32.reduceToNat, UInt8.reduceToNat]
  have tk : ∀ (k : Nat) (l : List UInt8), 0 < k → l.take (k * l.length) = l := fun k l h => take_all (.inl (by omega))
  simp (disch := omega) only [tk]
  have bad : (r.ok = true → False) → True ∧ True ∧ 0 ≤ 1 ∧ (∃ x, AV.tup [AV.sl true 0 0 (.agg []) true, AV.bool false] = AV.tup [x, AV.bool r.ok] ∧ isBy x r.outR) ∧ True := fun h => ⟨trivial, trivial, by omega, ⟨_, by rw [Rec.bad h], by rw [Rec.outR, Rec.bad h]; rfl⟩, trivial⟩
  refine fork_intro (fun h1 => bad fun k => ?_) fun h1 => fork_intro (fun h1b => bad fun k => ?_) fun h1b => ⟨hs, fork_intro (fun h2 => bad fun k => ?_) fun h2 => fork_intro (fun h3 => bad fun k => ?_) fun h3 => fork_intro (fun h4 => bad fun k => ?_) fun h4 =>
   fork_intro (fun h5 => bad fun k => ?_) fun h5 => fork_intro (fun h6 => bad fun k => ?_) fun h6 => fork_intro (fun h7 => bad fun k => ?_) fun h7 => fork_intro (fun h8 => bad fun k => ?_) fun h8 =>
   fork_intro (fun h9 => bad fun k => ?_) fun h9 => fork_intro (fun h10 => bad fun k => ?_) fun h10 => ?_⟩
  ·have := r.oks k; have := of_decide_eq_true h1; omega
  ·have := r.oks k; have := of_decide_eq_true h1b; omega
  ·rw [(r.oks k).2.2.1] at h2; cases h2
  ·have := r.oks k; have := of_decide_eq_true h3; omega
  ·have := r.oks k; have := of_decide_eq_true h4; omega
  ·rw [(r.oks k).2.2.2.2.2.1] at h5; cases h5
  ·rw [(r.oks k).2.2.2.2.2.2.1] at h6; cases h6
  ·have := r.oks k; have := of_decide_eq_true h7; omega
  ·have := r.oks k; have := of_decide_eq_true h8; omega
  ·have := r.oks k; have := of_decide_eq_true h9; omega
  ·have := r.oks k; have := of_decide_eq_true h10; omega
  have h1 := of_decide_eq_false h1
  have h1b := of_decide_eq_false h1b
  have h2 : nameOK r.name = true := by simpa using h2
  have h3 := of_decide_eq_false h3
  have h4 := of_decide_eq_false h4
  have h5 : r.v.low = true := by simpa using h5
  have h6 : r.key.low = true := by simpa using h6
  have h7 := of_decide_eq_false h7
  have h8 := of_decide_eq_false h8
  have h9 := of_decide_eq_false h9
  have h10 := of_decide_eq_false h10
  have hok : r.ok = true := by
   simp only [Rec.ok, Bool.and_eq_true, decide_eq_true_eq]
   and_intros <;> first | assumption | omega
  have hn := nameOK_len h2
  have hn1 : 1 ≤ r.name.length := by
   simp only [nameOK, Bool.and_eq_true, decide_eq_true_eq] at h2
   exact h2.1
  have lb : ∀ x, (be4 x).length = 4 := fun _ => rfl
  have ll : ∀ n, (eightTo n 8).length = 8 := fun n => eightTo_len n 8
  have e : 2 + r.name.length + 1 + r.salt.l.length + 1 + r.sea.l.length + 4 + 4 + 1 + 8 + 8 = ([UInt8.ofInt r.proto, UInt8.ofInt (r.name.length : Int)] ++ r.name ++ [UInt8.ofInt (r.salt.l.length : Int)] ++ r.salt.l ++ [UInt8.ofInt (r.sea.l.length : Int)] ++ r.sea.l ++ be4 r.v.a0 ++ be4 r.key.a0 ++ [UInt8.ofInt r.toks] ++ eightTo r.at_ 8 ++ eightTo r.rev 8).length := by
   simp only [List.length_append, List.length_cons, List.length_nil, lb, ll]
  rw [List.drop_zero, List.take_of_length_le (Nat.le_of_eq e.symm)]
  and_intros
  all_goals first | trivial | omega | (simp only [List.length_append, List.length_cons, List.length_nil, lb, ll]; done) | (simp only [List.length_append, List.length_cons, List.length_nil, lb, ll]; omega) | skip
  refine ⟨_, by rw [hok], ?_⟩
  rw [Rec.outR, hok]; rfl
 ·rintro a h ⟨⟨x, rfl, h1⟩, rfl⟩
  exact ⟨_, _, ⟨rfl, rfl⟩, Tell.tup ⟨byD_tell _ _ h1, Tell.refl _, trivial⟩, TellH.refl _⟩
def e36 : SpE := ⟨true, ev1 recD (fun r => some (r.name.length ≤ 1099511627776)) fun r => .tup [r.outR.A, .bool r.ok]⟩
theorem ok36 : SpE.ok Try.prog 36 e36 := ev1_ok kRec (fun _ => rfl) (fun r h => fn36 r h)
open Go.Proofs
set_option maxRecDepth 100000

theorem ior_bytes (x y : UInt8) : ior (w64 ((x.toNat : Int) * 2 ^ min 8 64)) (y.toNat : Int) = (x.toNat : Int) * 256 + y.toNat := by
 have hx : x.toNat < 256 := x.toNat_lt
 have hy : y.toNat < 256 := y.toNat_lt
 have e0 : w64 ((x.toNat : Int) * 2 ^ min 8 64) = ((x.toNat * 256 : Nat) : Int) := by
  rw [show min 8 64 = 8 from rfl, w64_in (by omega)]; omega
 have e : (BitVec.ofInt 64 ((x.toNat * 256 : Nat) : Int) ||| BitVec.ofInt 64 (y.toNat : Int)).toNat = x.toNat * 256 + y.toNat := by
  have := Nat.two_pow_add_eq_or_of_lt (i := 8) hy x.toNat
  rw [BitVec.toNat_or, BitVec.ofInt_natCast, BitVec.ofInt_natCast, BitVec.toNat_ofNat, BitVec.toNat_ofNat, Nat.mod_eq_of_lt (by omega), Nat.mod_eq_of_lt (by omega), Nat.mul_comm, show 256 = 2 ^ 8 from rfl, ← this]
 rw [e0, ior, e, wr64 (by omega)]; omega

def Rec.zero : Rec := ⟨0, [], By.no, Num.zero, Num.zero, By.no, 0, 0, 0⟩
def isRec (a : AV) (m : Rec) : Prop := recD a = some m
def orZR : Option Rec → Rec | some m => m | none => Rec.zero
def rr0 (b : By) : Rd := ⟨b, false⟩
def rr1 (b : By) : Rd := (rr0 b).next 1
def rr2 (b : By) : Rd := (rr1 b).nextL
def rr3 (b : By) : Rd := (rr2 b).nextL
def rr4 (b : By) : Rd := (rr3 b).nextL
def rr5 (b : By) : Rd := (rr4 b).next 4
def rr6 (b : By) : Rd := (rr5 b).next 4
def rr7 (b : By) : Rd := (rr6 b).next 1
def rr8 (b : By) : Rd := (rr7 b).next 8
def rr9 (b : By) : Rd := (rr8 b).next 8
def recW (b : By) : Rec := ⟨((rr0 b).num 1).i64, (rr1 b).long.l, (rr2 b).long, (rr4 b).num 4, (rr5 b).num 4, (rr3 b).long, ((rr6 b).num 1).i64, ((rr7 b).num 8).i64, ((rr8 b).num 8).i64⟩
def readW (b : By) : Option Rec := match (recW b).ok && (!(rr9 b).bad && ((recW b).outW.l == b.l)) with | true => some (recW b) | false => none
theorem Rd.nextL_le (r : Rd) : r.nextL.b.l.length ≤ r.b.l.length := by
 have h1 := r.next_le 1
 have h2 := (r.next 1).next_le (r.num 1).i64
 unfold Rd.nextL; omega
theorem finr_none {x : AV} {d : Option Rec} (hx : isRec x Rec.zero) (e : d = none) : ∃ a, AV.tup [x, .bool false] = .tup [a, .bool d.isSome] ∧ isRec a (orZR d) := ⟨x, by rw [e]; rfl, by rw [e]; exact hx⟩
theorem finr_some {x : AV} {d : Option Rec} {m : Rec} (hx : isRec x m) (e : d = some m) : ∃ a, AV.tup [x, .bool true] = .tup [a, .bool d.isSome] ∧ isRec a (orZR d) := ⟨x, by rw [e]; rfl, by rw [e]; exact hx⟩
set_option maxHeartbeats 4000000 in
theorem fn37 (b : By) (hb : b.l.length ≤ 1099511627776) : ACalls Try.prog 37 [b.A] [] (fun a h => a = .tup [.agg (orZR (readW b)).C, .bool (readW b).isSome] ∧ h = []) := by
 refine ACalls.tell (K := fun a h => (∃ x, a = .tup [x, .bool (readW b).isSome] ∧ isRec x (orZR (readW b))) ∧ h = []) ?_ ?_
 ·refine o37.run (Γ := G0 keep37 [(52, e52), (54, e54), (67, e67), (35, e35), (55, e55)]) (own := false) (kn := 0) (.cons ok52 o52.enter (.cons ok54 o54.enter (.cons ok67 o67.enter (.cons ok35 o35.enter (.cons ok55 o55.enter .nil))))) (Nat.le_of_ble_eq_true rfl) rfl (Nat.le_refl _) ?_
  dsimp only [c37, keep37, res37, Rec.C, recD, Rd.A, rdD, e52, e54, e67, e35, e55, Num.eta, By.eta, Rd.eta, Rec.eta, go_sem, Nat.succ, Int.reduceToNat, Nat.reduceAdd, Nat.reduceMul, Nat.reduceSub, Int.reduceLT, Int.reduceLE, Int.reduceNeg, UInt64.reduceToNat, UInt32.reduceToNat, UInt8.reduceToNat]
  have l0 : (rr0 b).b.l.length ≤ 1099511627776 := hb
  have l1 : (rr1 b).b.l.length ≤ 1099511627776 := Nat.le_trans ((rr0 b).next_le 1) l0
  have l2 : (rr2 b).b.l.length ≤ 1099511627776 := Nat.le_trans (rr1 b).nextL_le l1
  have l3 : (rr3 b).b.l.length ≤ 1099511627776 := Nat.le_trans (rr2 b).nextL_le l2
  have l4 : (rr4 b).b.l.length ≤ 1099511627776 := Nat.le_trans (rr3 b).nextL_le l3
  have l5 : (rr5 b).b.l.length ≤ 1099511627776 := Nat.le_trans ((rr4 b).next_le 4) l4
  have l6 : (rr6 b).b.l.length ≤ 1099511627776 := Nat.le_trans ((rr5 b).next_le 4) l5
  have l7 : (rr7 b).b.l.length ≤ 1099511627776 := Nat.le_trans ((rr6 b).next_le 1) l6
  have l8 : (rr8 b).b.l.length ≤ 1099511627776 := Nat.le_trans ((rr7 b).next_le 8) l7
  refine ⟨l0, rfl, l1, l2, l3, l4, rfl, l5, rfl, l6, l7, l8, fork_intro (fun h => ?_) (fun h => fork_intro (fun h2 => ?_) (fun h2 => fork_intro (fun h3 => ?_) (fun h3 => ?_)))⟩
  ·have h : (!(recW b).ok) = true := h
   have e : readW b = none := by rw [readW, not_t h]; rfl
   exact ⟨rfl, rfl, rfl, by omega, finr_none rfl e, rfl⟩
  ·have h : (!(recW b).ok) = false := h
   have h2 : (rr9 b).bad = true := h2
   have e : readW b = none := by rw [readW, h2]; simp
   exact ⟨rfl, rfl, rfl, by omega, finr_none rfl e, rfl⟩
  ·have h3 : (!((recW b).outW.l == b.l)) = true := h3
   have e : readW b = none := by rw [readW, not_t h3]; simp
   exact ⟨rfl, rfl, rfl, by omega, finr_none rfl e, rfl⟩
  ·have h : (!(recW b).ok) = false := h
   have h2 : (rr9 b).bad = false := h2
   have h3 : (!((recW b).outW.l == b.l)) = false := h3
   have e : readW b = some (recW b) := by rw [readW, not_f h, h2, not_f h3]; rfl
   exact ⟨rfl, rfl, rfl, by omega, finr_some rfl e, rfl⟩
 ·rintro a h ⟨⟨x, rfl, h1⟩, rfl⟩
  exact ⟨_, _, ⟨rfl, rfl⟩, Tell.tup ⟨recD_tell _ _ h1, Tell.refl _, trivial⟩, TellH.refl _⟩
def e37 : SpE := ⟨true, ev1 byD (fun b => some (b.l.length ≤ 1099511627776)) fun b => .tup [.agg (orZR (readW b)).C, .bool (readW b).isSome]⟩
theorem ok37 : SpE.ok Try.prog 37 e37 := ev1_ok kBy (fun _ => rfl) (fun b h => fn37 b h)

def Rd.gotR (r : Rd) (n : Int) : By := match decide ((r.b.l.length : Int) < n) with | true => ⟨false, List.replicate n.toNat 0⟩ | false => ⟨false, r.b.l.take n.toNat⟩
def Rd.nextR (r : Rd) (n : Int) : Rd := match decide ((r.b.l.length : Int) < n) with | true => ⟨⟨true, []⟩, true⟩ | false => ⟨⟨r.b.nil, r.b.l.drop n.toNat⟩, r.bad⟩
set_option maxHeartbeats 1000000 in
theorem fn69 (r : Rd) (n : Int) (hr : r.b.l.length ≤ 1099511627776) (hn : 0 ≤ n ∧ n ≤ 1099511627776) : ACalls Try.prog 69 [.ptr 0 0 0, .int n] [⟨0, r.A, false⟩] (fun a h => a = (r.gotR n).A ∧ h = [⟨0, (r.nextR n).A, false⟩]) := by
 refine ACalls.tell (K := fun a h => byD a = some (r.gotR n) ∧ ∃ c, h = [⟨0, c, false⟩] ∧ rdD c = some (r.nextR n)) ?_ ?_
 ·refine o69.run (Γ := GK 1 keep69 []) (own := false) (kn := 1) .nil (Nat.le_of_ble_eq_true rfl) rfl (Nat.le_refl _) ?_
  dsimp only [c69, keep69, res69, Rd.A, By.eta, go_sem, Nat.succ, Int.reduceToNat, Nat.reduceAdd, Nat.reduceMul, Nat.reduceSub, Int.reduceLT, Int.reduceLE, Int.reduceNeg, UInt64.reduceToNat, UInt32.reduceToNat, UInt8.reduceToNat]
  refine fork_intro (fun h => ?_) (fun h => ?_)
  ·rw [List.drop_zero, List.take_of_length_le (by simp)]
   refine ⟨by omega, by simp, rfl, rfl, by omega, by rw [Rd.gotR, h], _, rfl, by rw [Rd.nextR, h]; rfl⟩
  ·have h' := of_decide_eq_false h
   have hl : (r.b.l.take n.toNat).length = n.toNat := by rw [List.length_take]; omega
   rw [List.drop_zero, List.take_of_length_le (Nat.le_of_eq hl)]
   refine ⟨by omega, by omega, by omega, by omega, rfl, rfl, by omega, by rw [Rd.gotR, h], _, rfl, by rw [Rd.nextR, h]; rfl⟩
 ·rintro a h ⟨h1, c, rfl, h2⟩
  exact ⟨_, _, ⟨rfl, rfl⟩, byD_tell _ _ h1, ⟨rfl, rfl, rdD_tellC _ _ h2⟩, trivial⟩
def e69 : SpE := ⟨true, evP rdD Rd.A (l1D intD) (fun r n => some (r.b.l.length ≤ 1099511627776 ∧ (0 ≤ n ∧ n ≤ 1099511627776))) (fun r n => (r.gotR n).A) (fun r n => r.nextR n)⟩
theorem ok69 : SpE.ok Try.prog 69 e69 := evP_ok kRd rdD_tellC (kl1 kInt) (fun _ _ => rfl) (fun r n h => fn69 r n h.1 h.2)
def ss0 (b : By) : Rd := ⟨b, false⟩
def ss1 (b : By) : Rd := (ss0 b).nextR 1
def Rd.longR (r : Rd) : By := (r.nextR 1).gotR (numR (r.gotR 1).l)
def Rd.nextLR (r : Rd) : Rd := (r.nextR 1).nextR (numR (r.gotR 1).l)
def ss2 (b : By) : Rd := (ss1 b).nextLR
def ss3 (b : By) : Rd := (ss2 b).nextLR
def ss4 (b : By) : Rd := (ss3 b).nextLR
def ss5 (b : By) : Rd := (ss4 b).nextR 4
def ss6 (b : By) : Rd := (ss5 b).nextR 4
def ss7 (b : By) : Rd := (ss6 b).nextR 1
def ss8 (b : By) : Rd := (ss7 b).nextR 8
def ss9 (b : By) : Rd := (ss8 b).nextR 8
def recR (b : By) : Rec := ⟨numR ((ss0 b).gotR 1).l, (ss1 b).longR.l, (ss2 b).longR, Num.read ((ss4 b).gotR 4).l, Num.read ((ss5 b).gotR 4).l, (ss3 b).longR, numR ((ss6 b).gotR 1).l, numR ((ss7 b).gotR 8).l, numR ((ss8 b).gotR 8).l⟩
def pickR : Bool → Rec → Option Rec | true, r => some r | false, _ => none
def readR (b : By) : Option Rec := pickR (!(ss9 b).bad && ((recR b).ok && ((recR b).outR.l == b.l))) (recR b)
theorem readR_eq (b : By) : readR b = pickR (!(ss9 b).bad && ((recR b).ok && ((recR b).outR.l == b.l))) (recR b) := rfl
theorem isRec_C (r : Rec) : isRec (.agg r.C) r := rfl
theorem Rd.nextR_le (r : Rd) (n : Int) : (r.nextR n).b.l.length ≤ r.b.l.length := by
 unfold Rd.nextR; split
 ·simp
 ·simp
theorem Rd.nextLR_le (r : Rd) : r.nextLR.b.l.length ≤ r.b.l.length := by
 have h1 := r.nextR_le 1
 have h2 := (r.nextR 1).nextR_le (numR (r.gotR 1).l)
 unfold Rd.nextLR; omega
theorem Rd.gotR_len (r : Rd) (n : Nat) : (r.gotR n).l.length = n := by
 unfold Rd.gotR; split
 ·simp
 ·rename_i h; have := of_decide_eq_false h; simp; omega
theorem numR_one {l : List UInt8} (h : l.length = 1) : numR l = ((l.getD 0 0).toNat : Int) := by
 rw [numR, h]
 show ior (w64 (((0 : UInt8).toNat : Int) * 2 ^ min 8 64)) ((l.getD 0 0).toNat : Int) = _
 rw [ior_bytes]; simp
theorem Rd.numR_one (r : Rd) : 0 ≤ numR (r.gotR 1).l ∧ numR (r.gotR 1).l ≤ 1099511627776 := by
 rw [Abs.numR_one (show (r.gotR 1).l.length = 1 from r.gotR_len 1)]
 have := ((r.gotR 1).l.getD 0 0).toNat_lt
 omega
theorem Rd.longR_len (r : Rd) : r.longR.l.length ≤ 1099511627776 := by
 have h := r.numR_one
 rw [Rd.longR]
 obtain ⟨k, hk⟩ : ∃ k : Nat, numR (r.gotR 1).l = k := ⟨(numR (r.gotR 1).l).toNat, by omega⟩
 rw [hk] at h ⊢
 rw [Rd.gotR_len]; omega
theorem ss0_eq (b : By) : Rd.mk b false = ss0 b := rfl
theorem ss1_eq (b : By) : (ss0 b).nextR 1 = ss1 b := rfl
theorem longR_eq (r : Rd) : (r.nextR 1).gotR (numR (r.gotR 1).l) = r.longR := rfl
theorem nextLR_eq (r : Rd) : (r.nextR 1).nextR (numR (r.gotR 1).l) = r.nextLR := rfl
theorem ss2_eq (b : By) : (ss1 b).nextLR = ss2 b := rfl
theorem ss3_eq (b : By) : (ss2 b).nextLR = ss3 b := rfl
theorem ss4_eq (b : By) : (ss3 b).nextLR = ss4 b := rfl
theorem ss5_eq (b : By) : (ss4 b).nextR 4 = ss5 b := rfl
theorem ss6_eq (b : By) : (ss5 b).nextR 4 = ss6 b := rfl
theorem ss7_eq (b : By) : (ss6 b).nextR 1 = ss7 b := rfl
theorem ss8_eq (b : By) : (ss7 b).nextR 8 = ss8 b := rfl
theorem ss9_eq (b : By) : (ss8 b).nextR 8 = ss9 b := rfl
theorem recR_eq (b : By) : Rec.mk (numR ((ss0 b).gotR 1).l) (ss1 b).longR.l (ss2 b).longR (Num.read ((ss4 b).gotR 4).l) (Num.read ((ss5 b).gotR 4).l) (ss3 b).longR (numR ((ss6 b).gotR 1).l) (numR ((ss7 b).gotR 8).l) (numR ((ss8 b).gotR 8).l) = recR b := rfl
theorem tup_rec (p : Int) (s : List UInt8) (x : By) (v k : Num) (y : By) (t c f : Int) (d : Option Rec) (e : d = some ⟨p, s, x, v, k, y, t, c, f⟩) : ∃ a, AV.tup [.agg [.int p, .str s, .sl x.nil x.l.length 1 (.ab x.l) false, .u32 v.a0, .u32 v.a1, .u32 v.a2, .u32 v.a3, .u32 v.a4, .u32 v.a5, .u32 v.a6, .u32 v.a7,
  .u32 k.a0, .u32 k.a1, .u32 k.a2, .u32 k.a3, .u32 k.a4, .u32 k.a5, .u32 k.a6, .u32 k.a7, .sl y.nil y.l.length 1 (.ab y.l) false, .int t, .int c, .int f], .bool true] = .tup [a, .bool d.isSome] ∧ isRec a (orZR d) := by
 subst e
 exact ⟨_, rfl, rfl⟩
set_option maxHeartbeats 4000000 in
theorem fn39 (b : By) (hb : b.l.length ≤ 1099511627776) : ACalls Try.prog 39 [b.A] [] (fun a h => a = .tup [.agg (orZR (readR b)).C, .bool (readR b).isSome] ∧ h = []) := by
 refine ACalls.tell (K := fun a h => (∃ x, a = .tup [x, .bool (readR b).isSome] ∧ isRec x (orZR (readR b))) ∧ h = []) ?_ ?_
 ·refine o39.run (Γ := G0 keep39 [(69, e69), (68, e68), (70, e70), (36, e36)]) (own := false) (kn := 0) (.cons ok69 o69.enter (.cons ok68 o68.enter (.cons ok70 o70.enter (.cons ok36 o36.enter .nil)))) (Nat.le_of_ble_eq_true rfl) rfl (Nat.le_refl _) ?_
  dsimp only [c39, keep39, res39, Rec.C, recD, Rd.A, rdD, e69, e68, e70, e36, Num.eta, By.eta, Rd.eta, Rec.eta, go_sem, Nat.succ, Int.reduceToNat, Nat.reduceAdd, Nat.reduceMul, Nat.reduceSub, Int.reduceLT, Int.reduceLE, Int.reduceNeg, UInt64.reduceToNat, UInt32.reduceToNat, UInt8.reduceToNat]
  simp only [ss0_eq, ss1_eq, longR_eq, nextLR_eq, ss2_eq, ss3_eq, ss4_eq, ss5_eq, ss6_eq, ss7_eq, ss8_eq, ss9_eq, recR_eq]
  generalize hB : (ss9 b).bad = bd
  generalize hO : (recR b).ok = okb
  generalize hE : ((recR b).outR.l == b.l) = eqb
  have d1 : (0 : Int) ≤ 1 ∧ (1 : Int) ≤ 1099511627776 := by omega
  have d4 : (0 : Int) ≤ 4 ∧ (4 : Int) ≤ 1099511627776 := by omega
  have d8 : (0 : Int) ≤ 8 ∧ (8 : Int) ≤ 1099511627776 := by omega
  have l0 : (ss0 b).b.l.length ≤ 1099511627776 := hb
  have l1 : (ss1 b).b.l.length ≤ 1099511627776 := by rw [← ss1_eq]; exact Nat.le_trans ((ss0 b).nextR_le 1) l0
  have l2 : (ss2 b).b.l.length ≤ 1099511627776 := by rw [← ss2_eq]; exact Nat.le_trans (ss1 b).nextLR_le l1
  have l3 : (ss3 b).b.l.length ≤ 1099511627776 := by rw [← ss3_eq]; exact Nat.le_trans (ss2 b).nextLR_le l2
  have l4 : (ss4 b).b.l.length ≤ 1099511627776 := by rw [← ss4_eq]; exact Nat.le_trans (ss3 b).nextLR_le l3
  have l5 : (ss5 b).b.l.length ≤ 1099511627776 := by rw [← ss5_eq]; exact Nat.le_trans ((ss4 b).nextR_le 4) l4
  have l6 : (ss6 b).b.l.length ≤ 1099511627776 := by rw [← ss6_eq]; exact Nat.le_trans ((ss5 b).nextR_le 4) l5
  have l7 : (ss7 b).b.l.length ≤ 1099511627776 := by rw [← ss7_eq]; exact Nat.le_trans ((ss6 b).nextR_le 1) l6
  have l8 : (ss8 b).b.l.length ≤ 1099511627776 := by rw [← ss8_eq]; exact Nat.le_trans ((ss7 b).nextR_le 8) l7
  have n1 := (ss1 b).numR_one
  have n2 := (ss2 b).numR_one
  have n3 := (ss3 b).numR_one
  have k1 : ((ss1 b).nextR 1).b.l.length ≤ 1099511627776 := Nat.le_trans ((ss1 b).nextR_le 1) l1
  have k2 : ((ss2 b).nextR 1).b.l.length ≤ 1099511627776 := Nat.le_trans ((ss2 b).nextR_le 1) l2
  have k3 : ((ss3 b).nextR 1).b.l.length ≤ 1099511627776 := Nat.le_trans ((ss3 b).nextR_le 1) l3
  have hn := (ss1 b).longR_len
  refine ⟨⟨hb, d1⟩, trivial, ⟨l1, d1⟩, ⟨k1, n1⟩, ⟨l2, d1⟩, ⟨k2, n2⟩, ⟨l3, d1⟩, ⟨k3, n3⟩, ⟨l4, d4⟩, trivial, ⟨l5, d4⟩, trivial, ⟨l6, d1⟩, ⟨l7, d8⟩, ⟨l8, d8⟩, hn, ?_⟩
  refine fork_intro (fun h => ?_) (fun h => fork_intro (fun h2 => ?_) (fun h2 => fork_intro (fun h3 => ?_) (fun h3 => ?_)))
  ·have e : readR b = none := by rw [readR_eq, hB, h, Bool.not_true, Bool.false_and]; rfl
   exact ⟨trivial, trivial, trivial, Nat.zero_le _, finr_none rfl e, trivial⟩
  ·have e : readR b = none := by rw [readR_eq, hO, not_t h2, Bool.false_and, Bool.and_false]; rfl
   exact ⟨trivial, trivial, trivial, Nat.zero_le _, finr_none rfl e, trivial⟩
  ·have e : readR b = none := by rw [readR_eq, hE, not_t h3, Bool.and_false, Bool.and_false]; rfl
   exact ⟨trivial, trivial, trivial, Nat.zero_le _, finr_none rfl e, trivial⟩
  ·have e : readR b = some (recR b) := by rw [readR_eq, hB, hO, hE, h, not_f h2, not_f h3]; rfl
   exact ⟨trivial, trivial, trivial, Nat.zero_le _, tup_rec (numR ((ss0 b).gotR 1).l) (ss1 b).longR.l (ss2 b).longR (Num.read ((ss4 b).gotR 4).l) (Num.read ((ss5 b).gotR 4).l) (ss3 b).longR (numR ((ss6 b).gotR 1).l) (numR ((ss7 b).gotR 8).l) (numR ((ss8 b).gotR 8).l) (readR b) (e.trans (congrArg some (recR_eq b).symm)), trivial⟩
 ·rintro a h ⟨⟨x, rfl, h1⟩, rfl⟩
  exact ⟨_, _, ⟨rfl, rfl⟩, Tell.tup ⟨recD_tell _ _ h1, Tell.refl _, trivial⟩, TellH.refl _⟩
def e39 : SpE := ⟨true, ev1 byD (fun b => some (b.l.length ≤ 1099511627776)) fun b => .tup [.agg (orZR (readR b)).C, .bool (readR b).isSome]⟩
theorem ok39 : SpE.ok Try.prog 39 e39 := ev1_ok kBy (fun _ => rfl) (fun b h => fn39 b h)
open Go.Proofs
set_option maxRecDepth 100000

theorem eqs_num2 (x y : Num) : (x.a0 == y.a0 && (x.a1 == y.a1 && (x.a2 == y.a2 && (x.a3 == y.a3 && (x.a4 == y.a4 && (x.a5 == y.a5 && (x.a6 == y.a6 && x.a7 == y.a7))))))) = decide (x = y) := by
 rw [Bool.eq_iff_iff]
 obtain ⟨a0, a1, a2, a3, a4, a5, a6, a7⟩ := x
 obtain ⟨b0, b1, b2, b3, b4, b5, b6, b7⟩ := y
 simp
def Msg.same (m n : Msg) : Bool := (m.kind == n.kind) && ((m.proto == n.proto) && ((m.channel == n.channel) && ((m.e == n.e) && ((m.name == n.name) && (decide (m.a = n.a) && (decide (m.b = n.b) && ((m.salt.l == n.salt.l) && ((m.sea.l == n.sea.l) && ((m.tag.l == n.tag.l) && ((m.tok.l == n.tok.l) && (m.rcd.l == n.rcd.l)))))))))))
def Rec.same (m n : Rec) : Bool := (m.proto == n.proto) && ((m.name == n.name) && ((m.salt.l == n.salt.l) && (decide (m.v = n.v) && (decide (m.key = n.key) && ((m.sea.l == n.sea.l) && ((m.toks == n.toks) && ((m.at_ == n.at_) && (m.rev == n.rev))))))))
set_option maxHeartbeats 1000000 in
theorem fn21 (m n : Msg) : ACalls Try.prog 21 [.agg m.C, .agg n.C] [] (fun a h => a = .bool (m.same n) ∧ h = []) := by
 refine o21.run (Γ := G0 keep21 []) (own := false) (kn := 0) .nil (Nat.le_of_ble_eq_true rfl) rfl (Nat.le_refl _) ?_
 dsimp only [c21, keep21, res21, Msg.C, go_sem, Nat.succ, Int.reduceToNat, Nat.reduceAdd, Nat.reduceMul, Nat.reduceSub, Int.reduceLT, Int.reduceLE, Int.reduceNeg, UInt64.reduceToNat, UInt32.reduceToNat, UInt8.reduceToNat]
 simp only [eqs_num2]
 repeat' (refine fork_intro (fun h => ?_) (fun h => ?_))
 all_goals simp only [Msg.same, *, Bool.true_and, Bool.false_and, and_self, Nat.zero_le]
def e21 : SpE := ⟨true, ev2 msgD msgD (fun _ _ => none) fun m n => .bool (m.same n)⟩
theorem ok21 : SpE.ok Try.prog 21 e21 := ev2_ok kMsg kMsg (fun _ _ => rfl) (fun m n _ => fn21 m n)
set_option maxHeartbeats 1000000 in
theorem fn38 (m n : Rec) : ACalls Try.prog 38 [.agg m.C, .agg n.C] [] (fun a h => a = .bool (m.same n) ∧ h = []) := by
 refine o38.run (Γ := G0 keep38 []) (own := false) (kn := 0) .nil (Nat.le_of_ble_eq_true rfl) rfl (Nat.le_refl _) ?_
 dsimp only [c38, keep38, res38, Rec.C, go_sem, Nat.succ, Int.reduceToNat, Nat.reduceAdd, Nat.reduceMul, Nat.reduceSub, Int.reduceLT, Int.reduceLE, Int.reduceNeg, UInt64.reduceToNat, UInt32.reduceToNat, UInt8.reduceToNat]
 simp only [eqs_num2]
 repeat' (refine fork_intro (fun h => ?_) (fun h => ?_))
 all_goals simp only [Rec.same, *, Bool.true_and, Bool.false_and, and_self, Nat.zero_le]
def e38 : SpE := ⟨true, ev2 recD recD (fun _ _ => none) fun m n => .bool (m.same n)⟩
theorem ok38 : SpE.ok Try.prog 38 e38 := ev2_ok kRec kRec (fun _ _ => rfl) (fun m n _ => fn38 m n)

def nameC (x : UInt8) : UInt8 := UInt8.ofInt (w64 (33 + within1 (x.toNat : Int) 94))
def nameL (s : List UInt8) : List UInt8 := match s with | [] => [117] | _ => (s.map nameC).take 16
def nameTo (s : List UInt8) (i : Nat) : List UInt8 := (s.take i).map nameC ++ s.drop i
theorem nameTo_len (s : List UInt8) (i : Nat) : (nameTo s i).length = s.length := by
 simp [nameTo]; omega
theorem nameTo_at (s : List UInt8) (i : Nat) (h : i < s.length) : (nameTo s i).getD i 0 = s.getD i 0 := by
 have hl : ((s.take i).map nameC).length = i := by simp; omega
 rw [nameTo, List.getD_eq_getElem?_getD, List.getElem?_append_right (by omega), hl, Nat.sub_self, List.getElem?_drop, Nat.add_zero, ← List.getD_eq_getElem?_getD]
theorem nameTo_next (s : List UInt8) (i : Nat) (h : i < s.length) : (nameTo s i).set i (nameC (s.getD i 0)) = nameTo s (i + 1) := by
 have hl : ((s.take i).map nameC).length = i := by simp; omega
 have hg : s.getD i 0 = s[i] := by simp [List.getD_eq_getElem?_getD, List.getElem?_eq_getElem h]
 rw [nameTo, List.set_append_right _ _ (by omega), hl, Nat.sub_self, List.drop_eq_getElem_cons h, List.set_cons_zero, nameTo, List.take_succ_eq_append_getElem h, List.map_append, hg]
 simp
theorem nameTo_all (s : List UInt8) : nameTo s s.length = s.map nameC := by simp [nameTo]
def L42 (s : List UInt8) : LI where
 X := Nat
 x0 := 0
 pre i := i ≤ s.length
 inv i := ([(0, .str s), (3, .ms false 0 0 0 s.length 1), (4, .int i)], [⟨0, .ab (nameTo s i), false⟩])
 mu i := s.length - i
 ren := false
set_option maxHeartbeats 1000000 in
theorem fn42 (s : List UInt8) (hs : s.length ≤ 1099511627776) : ACalls Try.prog 42 [.str s] [] (fun a h => a = .str (nameL s) ∧ h = []) := by
 refine o42.run (Γ := GL keep42 [(22, e22)] fun _ => L42 s) (own := false) (kn := 0) (.cons ok22 o22.enter .nil) (Nat.le_of_ble_eq_true rfl) rfl (Nat.le_refl _) ?_
 dsimp only [c42, keep42, res42, L42, e22, go_sem, Nat.succ, Int.reduceToNat, Nat.reduceAdd, Nat.reduceMul, Nat.reduceSub, Int.reduceLT, Int.reduceLE, Int.reduceNeg, UInt64.reduceToNat, UInt32.reduceToNat, UInt8.reduceToNat]
 simp only [Int.toNat_natCast, Nat.zero_add]
 refine ⟨⟨⟨?_, ?_⟩, Nat.zero_le _⟩, fun i hi => fork_intro (fun h => ?_) (fun h => ?_)⟩
 ·and_intros <;> first | trivial | rfl
 ·and_intros <;> first | trivial | rfl | exact .inl rfl
 ·have h := of_decide_eq_true h
  have h : i < s.length := by omega
  rw [nameTo_at s i h, nameTo_len]
  refine ⟨by omega, h, by omega, by omega, h, i + 1, by omega, by omega, ?_, ?_⟩
  ·rw [w64_in (n := (i : Int) + 1) (by omega)]
   and_intros <;> first | trivial | rfl
  ·and_intros <;> first | trivial | rfl | skip
   exact .inl (congrArg AV.ab (nameTo_next s i h))
 ·have h := of_decide_eq_false h
  obtain rfl : i = s.length := by omega
  rw [nameTo_len, nameTo_all]
  refine fork_intro (fun h2 => ?_) (fun h2 => ?_)
  ·have h2 : s = [] := by simpa using h2
   subst h2
   and_intros <;> first | trivial | rfl | omega
  ·have h2 : s ≠ [] := by intro e; subst e; simp at h2
   have hp := List.length_pos_iff.2 h2
   have e : nameL s = (s.map nameC).take 16 := by cases s with | nil => exact absurd rfl h2 | cons x l => rfl
   refine ⟨by split <;> omega, by split <;> omega, ?_⟩
   rw [e, List.drop_zero]
   and_intros <;> first | trivial | rfl | omega | skip
   split
   ·rfl
   ·rw [List.take_of_length_le (by simp), List.take_of_length_le (by simp; omega)]
def e42 : SpE := ⟨true, ev1 strD (fun s => some (s.length ≤ 1099511627776)) fun s => .str (nameL s)⟩
theorem ok42 : SpE.ok Try.prog 42 e42 := ev1_ok kStr (fun _ => rfl) (fun s h => fn42 s h)

def someAt (b : List UInt8) (n : Int) (i : Nat) : UInt8 := match decide (i < b.length) with | true => b.getD i 0 | false => UInt8.ofInt (w64 (n + w64 ((i : Int) * 7)))
def someTo (b : List UInt8) (n : Int) : Nat → List UInt8
 | 0 => []
 | i + 1 => someTo b n i ++ [someAt b n i]
theorem someTo_len (b : List UInt8) (n : Int) : ∀ i, (someTo b n i).length = i
 | 0 => rfl
 | i + 1 => by simp [someTo, someTo_len b n i]
def someK (n most : Int) : Nat := (w64 (1 + within1 n most)).toNat
def someL (b : List UInt8) (n most : Int) : List UInt8 := someTo b n (someK n most)
theorem some_set (b : List UInt8) (n : Int) (i k : Nat) (x : UInt8) (h : i < k) : (someTo b n i ++ List.replicate (k - i) 0).set i x = someTo b n i ++ (x :: List.replicate (k - (i + 1)) 0) := by
 rw [List.set_append_right _ _ (by rw [someTo_len]; exact Nat.le_refl _), someTo_len, Nat.sub_self, show k - i = k - (i + 1) + 1 by omega, List.replicate_succ, List.set_cons_zero]
theorem within1_in {a b : Int} (h : 0 < b) : 0 ≤ within1 a b ∧ within1 a b < b := by
 have h1 := Int.tmod_lt_of_pos a h
 have h2 := Int.lt_tmod_of_pos a h
 unfold within1; split <;> omega
theorem someK_eq (n most : Int) (hm : 0 < most ∧ most ≤ 1000) : w64 (1 + within1 n most) = (someK n most : Int) ∧ 1 ≤ someK n most ∧ (someK n most : Int) ≤ most := by
 have h := within1_in (a := n) hm.1
 have e : w64 (1 + within1 n most) = 1 + within1 n most := w64_in (by omega)
 unfold someK
 rw [e]; omega
def L43 (b : By) (n most : Int) : LI where
 X := Nat
 x0 := 0
 pre i := i ≤ someK n most
 inv i := ([(0, b.A), (1, .int n), (7, .int (w64 (1 + within1 n most))), (8, .ms false 0 0 0 (someK n most) 1), (9, .int i)], [⟨0, .ab (someTo b.l n i ++ List.replicate (someK n most - i) 0), false⟩])
 mu i := someK n most - i
 ren := false
set_option maxHeartbeats 1000000 in
theorem fn43 (b : By) (n most : Int) (hm : 0 < most ∧ most ≤ 1000) (hb : b.l.length ≤ 1099511627776) : ACalls Try.prog 43 [b.A, .int n, .int most] [] (fun a h => a = (By.mk false (someL b.l n most)).A ∧ h = []) := by
 refine o43.run (Γ := GL keep43 [(22, e22)] fun _ => L43 b n most) (own := false) (kn := 0) (.cons ok22 o22.enter .nil) (Nat.le_of_ble_eq_true rfl) rfl (Nat.le_refl _) ?_
 dsimp only [c43, keep43, res43, L43, e22, By.A, go_sem, Nat.succ, Int.reduceToNat, Nat.reduceAdd, Nat.reduceMul, Nat.reduceSub, Int.reduceLT, Int.reduceLE, Int.reduceNeg, UInt64.reduceToNat, UInt32.reduceToNat, UInt8.reduceToNat]
 obtain ⟨hk, hk1, hk2⟩ := someK_eq n most hm
 simp only [hk, Int.toNat_natCast, Nat.zero_add]
 refine ⟨by omega, by omega, ⟨⟨?_, ?_⟩, Nat.zero_le _⟩, fun i hi => fork_intro (fun h => ?_) (fun h => ?_)⟩
 ·and_intros <;> first | trivial | rfl
 ·and_intros <;> first | trivial | rfl | exact .inl rfl
 ·have h := of_decide_eq_true h
  have h : i < someK n most := by omega
  have hl : (someTo b.l n i ++ List.replicate (someK n most - i) 0).length = someK n most := by simp [someTo_len]; omega
  refine ⟨by omega, by omega, fork_intro (fun h2 => ?_) (fun h2 => ?_)⟩
  ·have h2 := of_decide_eq_true h2
   have h2 : i < b.l.length := by omega
   refine ⟨by omega, by simp, by omega, by rw [List.length_set]; omega, i + 1, by omega, by omega, ?_, ?_⟩
   ·rw [w64_in (n := (i : Int) + 1) (by omega)]
    and_intros <;> first | trivial | rfl
   ·and_intros <;> first | trivial | rfl | skip
    refine .inl ?_
    rw [List.set_set, some_set _ _ _ _ _ h, someTo, someAt, decide_eq_true h2]
    simp [List.getD_cons_zero]
  ·have h2 := of_decide_eq_false h2
   have h2 : ¬ i < b.l.length := by omega
   refine ⟨i + 1, by omega, by omega, ?_, ?_⟩
   ·rw [w64_in (n := (i : Int) + 1) (by omega)]
    and_intros <;> first | trivial | rfl
   ·and_intros <;> first | trivial | rfl | skip
    refine .inl ?_
    rw [some_set _ _ _ _ _ h, someTo, someAt, decide_eq_false h2]
    simp
 ·have h := of_decide_eq_false h
  obtain rfl : i = someK n most := by omega
  have hl : (someTo b.l n (someK n most)).length = someK n most := someTo_len _ _ _
  refine ⟨by simp [hl], by trivial, by trivial, by omega, ?_, by trivial⟩
  rw [someL, List.drop_zero, Nat.sub_self, List.replicate_zero, List.append_nil, List.take_of_length_le (by omega), hl]
def e43 : SpE := ⟨true, ev3 byD intD intD (fun b _ most => some ((0 < most ∧ most ≤ 1000) ∧ b.l.length ≤ 1099511627776)) fun b n most => (By.mk false (someL b.l n most)).A⟩
theorem ok43 : SpE.ok Try.prog 43 e43 := ev3_ok kBy kInt kInt (fun _ _ _ => rfl) (fun b n m h => fn43 b n m h.1 h.2)
open Go.Proofs
set_option maxRecDepth 100000

def someB (b : By) (n most : Int) : By := ⟨false, someL b.l n most⟩
def mkK (kind : Int) : Int := w64 (1 + within1 kind 12)
def mkP (n : Int) : Int := w64 (1 + within1 n 2)
def mkA (n : Int) : Num := Num.from (w64 (1 + within1 n 4294967295))
def mkC (n : Int) : Num := Num.from (w64 (1 + within1 (w64 (n.tdiv 3)) 70000))
def makeM (kind n : Int) (s : List UInt8) (b : By) : Msg :=
 if mkK kind = 1 then (if mkP n = 2 then { Msg.zero with kind := mkK kind, proto := mkP n, name := nameL s, a := mkA n, b := mkC n } else { Msg.zero with kind := mkK kind, proto := mkP n, name := nameL s, a := mkA n })
 else if mkK kind = 2 then (if mkP n = 2 then { Msg.zero with kind := mkK kind, proto := mkP n, a := mkC n, b := mkA n, sea := someB b n 48 } else { Msg.zero with kind := mkK kind, proto := mkP n, b := mkA n, salt := someB b n 16 })
 else if mkK kind = 3 then { Msg.zero with kind := mkK kind, tag := someB b n 16 }
 else if mkK kind = 4 then (if within1 (w64 (n.tdiv 2)) 2 = 0 then { Msg.zero with kind := mkK kind, tok := someB b n 80, tag := someB b (w64 (n.tdiv 7)) 16 } else { Msg.zero with kind := mkK kind, tok := someB b n 80 })
 else if mkK kind = 5 then { Msg.zero with kind := mkK kind, e := w64 (1 + within1 n 11) }
 else if mkK kind = 6 then { Msg.zero with kind := mkK kind, proto := mkP n, name := nameL s, rcd := someB b n 120 }
 else if mkK kind = 8 then { Msg.zero with kind := mkK kind, tok := someB b n 80, channel := w64 (1 + within1 n 1099511627776) }
 else if mkK kind = 12 then { Msg.zero with kind := mkK kind, tok := someB b n 80, channel := w64 (1 + within1 n 1099511627776) }
 else if mkK kind = 9 then { Msg.zero with kind := mkK kind, tok := someB b n 80 }
 else if mkK kind = 10 then { Msg.zero with kind := mkK kind, tok := someB b n 80 }
 else if mkK kind = 11 then { Msg.zero with kind := mkK kind, proto := mkP n, tok := someB b n 80, rcd := someB b (w64 (n.tdiv 5)) 110 }
 else { Msg.zero with kind := mkK kind }
set_option maxHeartbeats 8000000 in
theorem fn16 (kind n : Int) (s : List UInt8) (b : By) (hs : s.length ≤ 1099511627776) (hb : b.l.length ≤ 1099511627776) : ACalls Try.prog 16 [.int kind, .int n, .str s, b.A] [] (fun a h => a = .agg (makeM kind n s b).C ∧ h = []) := by
 refine ACalls.tell (K := fun a h => isMsg a (makeM kind n s b) ∧ h = []) ?_ ?_
 ·refine o16.run (Γ := G0 keep16 [(22, e22), (24, e24), (42, e42), (43, e43)]) (own := false) (kn := 0) (.cons ok22 o22.enter (.cons ok24 o24.enter (.cons ok42 o42.enter (.cons ok43 o43.enter .nil)))) (Nat.le_of_ble_eq_true rfl) rfl (Nat.le_refl _) ?_
  dsimp only [c16, keep16, res16, e22, e24, e42, e43, Num.eta, By.eta, By.A, isMsg, msgD, go_sem, Nat.succ, Int.reduceToNat, Nat.reduceAdd, Nat.reduceMul, Nat.reduceSub, Int.reduceLT, Int.reduceLE, Int.reduceNeg, UInt64.reduceToNat, UInt32.reduceToNat, UInt8.reduceToNat]
  simp only [show w64 (1 + within1 kind 12) = mkK kind from rfl, show w64 (1 + within1 n 2) = mkP n from rfl, show Num.from (w64 (1 + within1 n 4294967295)) = mkA n from rfl, show Num.from (w64 (1 + within1 (w64 (n.tdiv 3)) 70000)) = mkC n from rfl]
  refine ⟨by omega, by trivial, by omega, by omega, by trivial, by omega, by omega, by trivial, ?_⟩
  repeat' (first | refine fork_intro (fun h => ?_) (fun h => ?_) | refine And.intro ?_ ?_)
  all_goals first | trivial | omega | skip
  all_goals simp only [beq_iff_eq, beq_eq_false_iff_ne, ne_eq] at *
  all_goals first | (exfalso; omega) | (refine congrArg some ?_; simp only [makeM, *, Int.reduceEq, ↓reduceIte]; rfl)
 ·rintro a h ⟨h1, rfl⟩
  exact ⟨_, _, ⟨rfl, rfl⟩, msgD_tell _ _ h1, TellH.refl _⟩
def e16 : SpE := ⟨true, ev4 intD intD strD byD (fun _ _ s b => some (s.length ≤ 1099511627776 ∧ b.l.length ≤ 1099511627776)) fun k n s b => .agg (makeM k n s b).C⟩
theorem ok16 : SpE.ok Try.prog 16 e16 := ev4_ok kInt kInt kStr kBy (fun _ _ _ _ => rfl) (fun k n s b h => fn16 k n s b h.1 h.2)
end Go.Abs
