/-
  Own work. Conditions: none. The plain law: a message's bytes by the program are the document's. The plain law: what was written is read as it was. The plain law: a message that was written is read as it was, by the program and b
-/
import Derived.Test.YtmgefdndbcgoiaaOwC
set_option linter.unusedVariables false
set_option linter.unusedSimpArgs false
set_option linter.unnecessarySimpa false
namespace Go.Abs
set_option maxRecDepth 100000

theorem u8_eq {x y : UInt8} (h : (x.toNat : Int) = y.toNat) : x = y := UInt8.toNat_inj.1 (by omega)
theorem u8_nat_int (n : Nat) : ((UInt8.ofNat n).toNat : Int) = (n : Int) % 256 := by
 have : UInt8.ofNat n = UInt8.ofInt (n : Int) := by
  apply UInt8.toNat_inj.1
  have := u8_ofInt (n : Int)
  rw [UInt8.toNat_ofNat']
  omega
 rw [this, u8_ofInt]
theorem be4_ofInt (n : Int) : be4 (UInt32.ofInt n) = [UInt8.ofInt (n / 2 ^ 24), UInt8.ofInt (n / 2 ^ 16), UInt8.ofInt (n / 2 ^ 8), UInt8.ofInt n] := by
 have h := u32_ofInt n
 have key : ∀ (k : Nat) (p : Int), (((UInt32.ofInt n).toNat : Int) / p) % 256 = (n / p) % 256 → k = (UInt32.ofInt n).toNat → True := fun _ _ _ _ => trivial
 simp only [be4, List.cons.injEq, and_true]
 refine ⟨u8_eq ?_, u8_eq ?_, u8_eq ?_, u8_eq ?_⟩
 ·rw [u8_nat_int, u8_ofInt]; omega
 ·rw [u8_nat_int, u8_ofInt]; omega
 ·rw [u8_nat_int, u8_ofInt]; omega
 ·rw [u8_nat_int, u8_ofInt]; omega
theorem atB8 (x : Num) : atB x 8 = be4 x.a1 ++ be4 x.a0 := rfl
theorem atB4 (x : Num) : atB x 4 = be4 x.a0 := rfl
theorem atB1 (x : Num) : atB x 1 = [UInt8.ofNat x.a0.toNat] := rfl
theorem atB1_from {n : Int} (h : 0 ≤ n) : atB (Num.from n) 1 = [UInt8.ofInt n] := by
 rw [atB1, Num.from, if_neg (by omega)]
 have h := u32_ofInt n
 congr 1
 exact u8_eq (by rw [u8_nat_int, u8_ofInt]; simp only []; omega)
theorem eight8 (n : Int) : eightTo n 8 = [UInt8.ofInt (n / 2 ^ 56), UInt8.ofInt (n / 2 ^ 48), UInt8.ofInt (n / 2 ^ 40), UInt8.ofInt (n / 2 ^ 32), UInt8.ofInt (n / 2 ^ 24), UInt8.ofInt (n / 2 ^ 16), UInt8.ofInt (n / 2 ^ 8), UInt8.ofInt n] := by
 simp [eightTo]
theorem atB8_from {n : Int} (h : 0 ≤ n) : atB (Num.from n) 8 = eightTo n 8 := by
 rw [atB8, eight8, Num.from, if_neg (by omega), be4_ofInt, be4_ofInt]
 simp only [List.cons_append, List.nil_append]
 rw [show n / 2 ^ 32 / 2 ^ 24 = n / 2 ^ 56 by omega, show n / 2 ^ 32 / 2 ^ 16 = n / 2 ^ 48 by omega, show n / 2 ^ 32 / 2 ^ 8 = n / 2 ^ 40 by omega]
theorem fd_bytes (m : Msg) (h : m.rightR = true) (j : Nat) (hj : j < 11) (hh : m.has (j + 1) = true) : (m.fd j).b.l = (m.bytesR (ilit (j + 1))).l ∧ (m.fd j).k = ilit (j + 1) := by
 simp only [Msg.rightR, Msg.okR, Bool.and_eq_true, Bool.or_eq_true, decide_eq_true_eq, beq_iff_eq, Bool.not_eq_true', decide_eq_false_iff_not] at h
 obtain ⟨_, hp1, hp2, hn, _, _, h1, h2, h3, h4, h5, hc, he1, he2⟩ := h
 rcases j with _ | _ | _ | _ | _ | _ | _ | _ | _ | _ | _ | j
 ·refine ⟨?_, rfl⟩
  simp only [Msg.has, Bool.not_eq_true', beq_eq_false_iff_ne, ne_eq] at hh
  show (wholeB m.proto 1).l = [UInt8.ofInt m.proto]
  rw [wholeB, if_neg hh]; exact atB1_from (by omega)
 ·exact ⟨rfl, rfl⟩
 ·refine ⟨?_, rfl⟩
  simp only [Msg.has, Bool.not_eq_true', Num.isZ_eq, decide_eq_false_iff_not] at hh
  show (fourB m.a).l = be4 m.a.a0
  rw [fourB, if_neg hh]
 ·refine ⟨?_, rfl⟩
  simp only [Msg.has, Bool.not_eq_true', Num.isZ_eq, decide_eq_false_iff_not] at hh
  show (fourB m.b).l = be4 m.b.a0
  rw [fourB, if_neg hh]
 ·exact ⟨rfl, rfl⟩
 ·exact ⟨rfl, rfl⟩
 ·exact ⟨rfl, rfl⟩
 ·exact ⟨rfl, rfl⟩
 ·exact ⟨rfl, rfl⟩
 ·refine ⟨?_, rfl⟩
  simp only [Msg.has, Bool.not_eq_true', beq_eq_false_iff_ne, ne_eq] at hh
  show (wholeB m.channel 8).l = eightTo m.channel 8
  rw [wholeB, if_neg hh]; exact atB8_from (by omega)
 ·refine ⟨?_, rfl⟩
  simp only [Msg.has, Bool.not_eq_true', beq_eq_false_iff_ne, ne_eq] at hh
  show (wholeB m.e 1).l = [UInt8.ofInt m.e]
  rw [wholeB, if_neg hh]; exact atB1_from (by omega)
 ·omega
theorem enc_eq (m : Msg) (h : m.rightR = true) : ∀ n, n ≤ 11 → m.encW n = m.encTo n
 | 0, _ => rfl
 | n + 1, hn => by
   have ih := enc_eq m h n (by omega)
   simp only [Msg.encW, Msg.encTo]
   rw [fd_has m n (by omega), ih]
   cases hh : m.has (n + 1) with
   | false => rfl
   | true =>
     obtain ⟨e1, e2⟩ := fd_bytes m h n (by omega) hh
     simp only
     rw [e1, e2]
theorem is_eq (m : Msg) : m.isW = m.isR := by
 unfold Msg.isW Msg.isR
 rw [right_eq]
 cases h : m.rightR with
 | false => rfl
 | true => rw [enc_eq m h 11 (Nat.le_refl _)]
theorem out_eq (m : Msg) : m.outW = m.outR := by
 unfold Msg.outW Msg.outR
 rw [is_eq]
 unfold Msg.isR
 cases h : m.rightR with
 | false => rfl
 | true => rw [enc_eq m h 11 (Nat.le_refl _)] <;> rfl
set_option maxRecDepth 100000

def up8 (k : Nat) (b : UInt8) : UInt32 := UInt32.ofNat ((UInt32.ofNat b.toNat).toNat * 2 ^ k)
def le4 (b3 b2 b1 b0 : UInt8) : UInt32 := UInt32.ofNat (b3.toNat * 2 ^ 24 + b2.toNat * 2 ^ 16 + b1.toNat * 2 ^ 8 + b0.toNat)
theorem up8_nat (k : Nat) (b : UInt8) (hk : k ≤ 24) : (up8 k b).toNat = b.toNat * 2 ^ k := by
 have hb : b.toNat < 256 := b.toNat_lt
 have h2 : 2 ^ k ≤ 2 ^ 24 := Nat.pow_le_pow_right (by omega) hk
 have h3 : b.toNat * 2 ^ k ≤ 255 * 2 ^ 24 := Nat.mul_le_mul (by omega) h2
 rw [up8, UInt32.toNat_ofNat_of_lt' (show b.toNat < 2 ^ 32 by omega), UInt32.toNat_ofNat_of_lt' (show _ < 2 ^ 32 by omega)]
theorem or4 (b3 b2 b1 b0 : UInt8) : ((((0 : UInt32) ||| up8 24 b3) ||| up8 16 b2) ||| up8 8 b1) ||| up8 0 b0 = le4 b3 b2 b1 b0 := by
 have h3 : b3.toNat < 256 := b3.toNat_lt
 have h2 : b2.toNat < 256 := b2.toNat_lt
 have h1 : b1.toNat < 256 := b1.toNat_lt
 have h0 : b0.toNat < 256 := b0.toNat_lt
 apply UInt32.toNat_inj.1
 rw [UInt32.toNat_or, UInt32.toNat_or, UInt32.toNat_or, UInt32.toNat_or, up8_nat _ _ (by omega), up8_nat _ _ (by omega), up8_nat _ _ (by omega), up8_nat _ _ (by omega), le4, UInt32.toNat_ofNat_of_lt' (show _ < 2 ^ 32 by omega)]
 have e0 : (0 : UInt32).toNat ||| b3.toNat * 2 ^ 24 = b3.toNat * 2 ^ 24 := by
  rw [show (0 : UInt32).toNat = 0 from rfl, Nat.zero_or]
 have e1 := Nat.two_pow_add_eq_or_of_lt (i := 24) (b := b2.toNat * 2 ^ 16) (by omega) b3.toNat
 have e2 := Nat.two_pow_add_eq_or_of_lt (i := 16) (b := b1.toNat * 2 ^ 8) (by omega) (b3.toNat * 2 ^ 8 + b2.toNat)
 have e3 := Nat.two_pow_add_eq_or_of_lt (i := 8) (b := b0.toNat * 2 ^ 0) (by omega) (b3.toNat * 2 ^ 16 + b2.toNat * 2 ^ 8 + b1.toNat)
 rw [e0, show b3.toNat * 2 ^ 24 = 2 ^ 24 * b3.toNat by omega, ← e1, show 2 ^ 24 * b3.toNat + b2.toNat * 2 ^ 16 = 2 ^ 16 * (b3.toNat * 2 ^ 8 + b2.toNat) by omega, ← e2,
  show 2 ^ 16 * (b3.toNat * 2 ^ 8 + b2.toNat) + b1.toNat * 2 ^ 8 = 2 ^ 8 * (b3.toNat * 2 ^ 16 + b2.toNat * 2 ^ 8 + b1.toNat) by omega, ← e3]
 omega
theorem le4_be4 (w : UInt32) : le4 (UInt8.ofNat (w.toNat / 2 ^ 24)) (UInt8.ofNat (w.toNat / 2 ^ 16)) (UInt8.ofNat (w.toNat / 2 ^ 8)) (UInt8.ofNat w.toNat) = w := by
 have hw := w.toNat_lt
 apply UInt32.toNat_inj.1
 rw [le4]
 simp only [UInt8.toNat_ofNat']
 rw [UInt32.toNat_ofNat_of_lt' (show _ < 2 ^ 32 by omega)]
 omega
theorem read1 (x : UInt8) : Num.read [x] = ⟨UInt32.ofNat x.toNat, 0, 0, 0, 0, 0, 0, 0⟩ := by
 have e : Num.read [x] = ⟨(0 : UInt32) ||| up8 0 x, 0, 0, 0, 0, 0, 0, 0⟩ := by simp [Num.read, readTo, readStep, Num.of, up8]
 rw [e]
 congr 1
 apply UInt32.toNat_inj.1
 have hx := x.toNat_lt
 rw [UInt32.toNat_or, up8_nat _ _ (by omega), UInt32.toNat_ofNat_of_lt' (show x.toNat < 2 ^ 32 by omega), show (0 : UInt32).toNat = 0 from rfl, Nat.zero_or]
 omega
theorem read4 (b3 b2 b1 b0 : UInt8) : Num.read [b3, b2, b1, b0] = ⟨le4 b3 b2 b1 b0, 0, 0, 0, 0, 0, 0, 0⟩ := by
 have e : Num.read [b3, b2, b1, b0] = ⟨((((0 : UInt32) ||| up8 24 b3) ||| up8 16 b2) ||| up8 8 b1) ||| up8 0 b0, 0, 0, 0, 0, 0, 0, 0⟩ := by simp [Num.read, readTo, readStep, Num.of, up8]
 rw [e, or4]
theorem read8 (c3 c2 c1 c0 b3 b2 b1 b0 : UInt8) : Num.read [c3, c2, c1, c0, b3, b2, b1, b0] = ⟨le4 b3 b2 b1 b0, le4 c3 c2 c1 c0, 0, 0, 0, 0, 0, 0⟩ := by
 have e : Num.read [c3, c2, c1, c0, b3, b2, b1, b0] = ⟨((((0 : UInt32) ||| up8 24 b3) ||| up8 16 b2) ||| up8 8 b1) ||| up8 0 b0, ((((0 : UInt32) ||| up8 24 c3) ||| up8 16 c2) ||| up8 8 c1) ||| up8 0 c0, 0, 0, 0, 0, 0, 0⟩ := by simp [Num.read, readTo, readStep, Num.of, up8]
 rw [e, or4, or4]
theorem read_be4 (w : UInt32) : Num.read (be4 w) = ⟨w, 0, 0, 0, 0, 0, 0, 0⟩ := by rw [be4, read4, le4_be4]
theorem read_at8 (x : Num) : Num.read (atB x 8) = ⟨x.a0, x.a1, 0, 0, 0, 0, 0, 0⟩ := by
 rw [atB8, be4, be4]
 simp only [List.cons_append, List.nil_append]
 rw [read8, le4_be4, le4_be4]
theorem i64_eq (x : Num) : x.i64 = w64 ((x.a0.toNat : Int) + (x.a1.toNat : Int) * 2 ^ 32) := by
 have h0 := x.a0.toNat_lt
 have h1 := x.a1.toNat_lt
 rw [Num.i64]
 congr 1
 rw [UInt64.toNat_or, UInt64.toNat_ofNat_of_lt' (show x.a0.toNat < 2 ^ 64 by omega), UInt64.toNat_ofNat_of_lt' (show x.a1.toNat < 2 ^ 64 by omega), show min 32 64 = 32 from rfl, UInt64.toNat_ofNat_of_lt' (show x.a1.toNat * 2 ^ 32 < 2 ^ 64 by omega)]
 have e := Nat.two_pow_add_eq_or_of_lt (i := 32) (b := x.a0.toNat) (by omega) x.a1.toNat
 rw [Nat.or_comm, show x.a1.toNat * 2 ^ 32 = 2 ^ 32 * x.a1.toNat by omega, ← e]
 omega
theorem i64_byte (x : UInt8) : (Num.read [x]).i64 = (x.toNat : Int) := by
 have hx := x.toNat_lt
 rw [read1, i64_eq]
 simp only
 rw [UInt32.toNat_ofNat_of_lt' (show x.toNat < 2 ^ 32 by omega), w64_in (by simp; omega)]
 simp
theorem i64_from {n : Int} (h : 0 ≤ n ∧ n < 9223372036854775808) : (Num.read (atB (Num.from n) 8)).i64 = n := by
 rw [read_at8, i64_eq, Num.from, if_neg (by omega)]
 simp only [u32_ofInt]
 rw [w64_in (by omega)]; omega
theorem i64_lt (x : Num) : x.i64 < 9223372036854775808 := by
 rw [i64_eq, w64, IntKind.wrap_i64]
 omega
theorem ior_step {n : Int} (h : 0 ≤ n ∧ n < 36028797018963968) (y : UInt8) : ior (w64 (n * 2 ^ 8)) (y.toNat : Int) = n * 256 + y.toNat := by
 have hy : y.toNat < 256 := y.toNat_lt
 obtain ⟨k, rfl⟩ : ∃ k : Nat, n = k := ⟨n.toNat, by omega⟩
 have e0 : w64 ((k : Int) * 2 ^ 8) = ((k * 256 : Nat) : Int) := by rw [w64_in (by omega)]; omega
 have e : (BitVec.ofInt 64 ((k * 256 : Nat) : Int) ||| BitVec.ofInt 64 (y.toNat : Int)).toNat = k * 256 + y.toNat := by
  have := Nat.two_pow_add_eq_or_of_lt (i := 8) hy k
  rw [BitVec.toNat_or, BitVec.ofInt_natCast, BitVec.ofInt_natCast, BitVec.toNat_ofNat, BitVec.toNat_ofNat, Nat.mod_eq_of_lt (by omega), Nat.mod_eq_of_lt (by omega), Nat.mul_comm, show 256 = 2 ^ 8 from rfl, ← this]
 rw [e0, ior, e, wr64 (by omega)]; omega
theorem numR_byte (x : UInt8) : numR [x] = (x.toNat : Int) := by
 show ior (w64 (0 * 2 ^ 8)) (x.toNat : Int) = _
 rw [ior_step (by omega)]; omega
theorem numR_eight {n : Int} (h : 0 ≤ n ∧ n < 9223372036854775808) : numR (eightTo n 8) = n := by
 rw [eight8]
 have e1 : numTo [UInt8.ofInt (n / 2 ^ 56), UInt8.ofInt (n / 2 ^ 48), UInt8.ofInt (n / 2 ^ 40), UInt8.ofInt (n / 2 ^ 32), UInt8.ofInt (n / 2 ^ 24), UInt8.ofInt (n / 2 ^ 16), UInt8.ofInt (n / 2 ^ 8), UInt8.ofInt n] 8
   = ior (w64 (ior (w64 (ior (w64 (ior (w64 (ior (w64 (ior (w64 (ior (w64 (ior (w64 (0 * 2 ^ 8)) ((UInt8.ofInt (n / 2 ^ 56)).toNat : Int) * 2 ^ 8)) ((UInt8.ofInt (n / 2 ^ 48)).toNat : Int) * 2 ^ 8)) ((UInt8.ofInt (n / 2 ^ 40)).toNat : Int) * 2 ^ 8)) ((UInt8.ofInt (n / 2 ^ 32)).toNat : Int) * 2 ^ 8)) ((UInt8.ofInt (n / 2 ^ 24)).toNat : Int) * 2 ^ 8)) ((UInt8.ofInt (n / 2 ^ 16)).toNat : Int) * 2 ^ 8)) ((UInt8.ofInt (n / 2 ^ 8)).toNat : Int) * 2 ^ 8)) ((UInt8.ofInt n).toNat : Int) := rfl
 show numTo _ 8 = n
 rw [e1]
 have f1 := u8_ofInt (n / 2 ^ 56)
 have f2 := u8_ofInt (n / 2 ^ 48)
 have f3 := u8_ofInt (n / 2 ^ 40)
 have f4 := u8_ofInt (n / 2 ^ 32)
 have f5 := u8_ofInt (n / 2 ^ 24)
 have f6 := u8_ofInt (n / 2 ^ 16)
 have f7 := u8_ofInt (n / 2 ^ 8)
 have f8 := u8_ofInt n
 have s1 : ior (w64 (0 * 2 ^ 8)) ((UInt8.ofInt (n / 2 ^ 56)).toNat : Int) = n / 2 ^ 56 := by rw [ior_step (by omega)]; omega
 have s2 : ior (w64 (n / 2 ^ 56 * 2 ^ 8)) ((UInt8.ofInt (n / 2 ^ 48)).toNat : Int) = n / 2 ^ 48 := by rw [ior_step (by omega)]; omega
 have s3 : ior (w64 (n / 2 ^ 48 * 2 ^ 8)) ((UInt8.ofInt (n / 2 ^ 40)).toNat : Int) = n / 2 ^ 40 := by rw [ior_step (by omega)]; omega
 have s4 : ior (w64 (n / 2 ^ 40 * 2 ^ 8)) ((UInt8.ofInt (n / 2 ^ 32)).toNat : Int) = n / 2 ^ 32 := by rw [ior_step (by omega)]; omega
 have s5 : ior (w64 (n / 2 ^ 32 * 2 ^ 8)) ((UInt8.ofInt (n / 2 ^ 24)).toNat : Int) = n / 2 ^ 24 := by rw [ior_step (by omega)]; omega
 have s6 : ior (w64 (n / 2 ^ 24 * 2 ^ 8)) ((UInt8.ofInt (n / 2 ^ 16)).toNat : Int) = n / 2 ^ 16 := by rw [ior_step (by omega)]; omega
 have s7 : ior (w64 (n / 2 ^ 16 * 2 ^ 8)) ((UInt8.ofInt (n / 2 ^ 8)).toNat : Int) = n / 2 ^ 8 := by rw [ior_step (by omega)]; omega
 have s8 : ior (w64 (n / 2 ^ 8 * 2 ^ 8)) ((UInt8.ofInt n).toNat : Int) = n := by rw [ior_step (by omega)]; omega
 rw [s1, s2, s3, s4, s5, s6, s7, s8]

theorem fits_le {z bad : Bool} {l : List UInt8} {n : Nat} (h : n ≤ l.length) : (Rd.mk ⟨z, l⟩ bad).fits n = true := by
 unfold Rd.fits
 rw [decide_eq_false (by omega), decide_eq_false (by simp; omega)]; rfl
theorem got_le' {z bad : Bool} {l : List UInt8} {n : Nat} (h : n ≤ l.length) : (Rd.mk ⟨z, l⟩ bad).got n = ⟨z, l.take n⟩ := by
 rw [Rd.got, fits_le h]; simp only [Int.toNat_natCast]
theorem next_le' {z bad : Bool} {l : List UInt8} {n : Nat} (h : n ≤ l.length) : (Rd.mk ⟨z, l⟩ bad).next n = ⟨⟨z, l.drop n⟩, bad⟩ := by
 rw [Rd.next, fits_le h]; simp only [Int.toNat_natCast]
theorem next_one {z bad : Bool} (x : UInt8) (l : List UInt8) : (Rd.mk ⟨z, x :: l⟩ bad).next 1 = ⟨⟨z, l⟩, bad⟩ := next_le' (n := 1) (by simp)
theorem num_one {z bad : Bool} (x : UInt8) (l : List UInt8) : ((Rd.mk ⟨z, x :: l⟩ bad).num 1).i64 = (x.toNat : Int) := by
 rw [Rd.num, show (1 : Int) = ((1 : Nat) : Int) from rfl, got_le' (by simp)]
 exact i64_byte x
theorem long_app {z bad : Bool} {x : UInt8} {b : List UInt8} (l : List UInt8) (h : x.toNat = b.length) : (Rd.mk ⟨z, x :: (b ++ l)⟩ bad).long = ⟨z, b⟩ ∧ (Rd.mk ⟨z, x :: (b ++ l)⟩ bad).nextL = ⟨⟨z, l⟩, bad⟩ := by
 rw [Rd.long, Rd.nextL, num_one, next_one, h, got_le' (by simp), next_le' (by simp)]
 simp

def fieldsB : List (Nat × List UInt8) → List UInt8
 | [] => []
 | f :: r => UInt8.ofInt (f.1 : Int) :: UInt8.ofInt (f.2.length : Int) :: (f.2 ++ fieldsB r)
def fieldsOK (fs : List (Nat × List UInt8)) : Prop := ∀ f ∈ fs, 1 ≤ f.1 ∧ f.1 ≤ 11 ∧ f.2.length < 256
theorem fieldsB_app (a b : List (Nat × List UInt8)) : fieldsB (a ++ b) = fieldsB a ++ fieldsB b := by
 induction a with
 | nil => rfl
 | cons f a ih => simp only [List.cons_append, fieldsB, ih, List.append_assoc]
theorem u8_small {n : Nat} (h : n < 256) : (UInt8.ofInt (n : Int)).toNat = n := by have := u8_ofInt (n : Int); omega
theorem decLoop_fields (z : Bool) : ∀ (fs : List (Nat × List UInt8)) (n : Nat) (m : Msg), fs.length ≤ n → fieldsOK fs → decLoop n m ⟨⟨z, fieldsB fs⟩, false⟩ = some (fs.foldl (fun m f => m.put (f.1 : Int) ⟨z, f.2⟩) m)
 | [], n, m, _, _ => by cases n <;> rfl
 | f :: r, 0, m, h, _ => by simp at h
 | f :: r, n + 1, m, h, hok => by
   obtain ⟨h1, h2, h3⟩ := hok f (by simp)
   obtain ⟨l1, l2⟩ := long_app (z := z) (bad := false) (x := UInt8.ofInt (f.2.length : Int)) (b := f.2) (fieldsB r) (u8_small h3)
   have e : decLoop (n + 1) m ⟨⟨z, fieldsB (f :: r)⟩, false⟩ = decLoop n (m.put (f.1 : Int) ⟨z, f.2⟩) ⟨⟨z, fieldsB r⟩, false⟩ := by
    rw [fieldsB, decLoop]
    rw [num_one, next_one, l1, l2, u8_small (by omega)]
    simp only [List.isEmpty_cons, Bool.or_self]
    rw [decide_eq_true (show (1 : Int) ≤ (f.1 : Int) by omega), decide_eq_true (show (f.1 : Int) ≤ 11 by omega)]
    rfl
   rw [e, decLoop_fields z r n _ (by simp at h; omega) (fun g hg => hok g (by simp [hg]))]
   rfl
theorem decLoopR_fields (z : Bool) : ∀ (fs : List (Nat × List UInt8)) (n : Nat) (m : Msg) (pre : List UInt8), fs.length ≤ n → fieldsOK fs → decLoopR ⟨z, pre ++ fieldsB fs⟩ n m pre.length = fs.foldl (fun m f => m.setR (f.1 : Int) ⟨z, f.2⟩) m
 | [], n, m, pre, _, _ => by
   cases n with
   | zero => rfl
   | succ n =>
     rw [decLoopR, decide_eq_false (show ¬ pre.length + 2 ≤ (pre ++ fieldsB []).length by simp [fieldsB])]
     rfl
 | f :: r, 0, m, pre, h, _ => by simp at h
 | f :: r, n + 1, m, pre, h, hok => by
   obtain ⟨h1, h2, h3⟩ := hok f (by simp)
   have hb : (pre ++ fieldsB (f :: r)) = (pre ++ (UInt8.ofInt (f.1 : Int) :: UInt8.ofInt (f.2.length : Int) :: f.2)) ++ fieldsB r := by
    simp [fieldsB]
   have g0 : (pre ++ fieldsB (f :: r)).getD pre.length 0 = UInt8.ofInt (f.1 : Int) := by simp [fieldsB, List.getD_eq_getElem?_getD]
   have g1 : (pre ++ fieldsB (f :: r)).getD (pre.length + 1) 0 = UInt8.ofInt (f.2.length : Int) := by
    rw [List.getD_eq_getElem?_getD, List.getElem?_append_right (by omega)]; simp [fieldsB]
   have g2 : ((pre ++ fieldsB (f :: r)).drop (pre.length + 2)).take f.2.length = f.2 := by
    rw [List.drop_append, List.drop_eq_nil_of_le (by omega), show pre.length + 2 - pre.length = 2 by omega]; simp [fieldsB]
   have e : decLoopR ⟨z, pre ++ fieldsB (f :: r)⟩ (n + 1) m pre.length = decLoopR ⟨z, pre ++ fieldsB (f :: r)⟩ n (m.setR (f.1 : Int) ⟨z, f.2⟩) (pre.length + 2 + f.2.length) := by
    rw [decLoopR]
    simp only [g0, g1]
    rw [u8_small h3, u8_small (by omega), g2, decide_eq_true (show pre.length + 2 ≤ _ by simp [fieldsB]), decide_eq_true (show pre.length + 2 + f.2.length ≤ _ by simp [fieldsB]; omega)]
    rfl
   have e2 := decLoopR_fields z r n (m.setR (f.1 : Int) ⟨z, f.2⟩) (pre ++ (UInt8.ofInt (f.1 : Int) :: UInt8.ofInt (f.2.length : Int) :: f.2)) (by simp at h; omega) (fun g hg => hok g (by simp [hg]))
   rw [e, hb, show pre.length + 2 + f.2.length = (pre ++ (UInt8.ofInt (f.1 : Int) :: UInt8.ofInt (f.2.length : Int) :: f.2)).length by simp; omega, e2]
   rfl
set_option maxRecDepth 100000

def By.full (b : By) : By := ⟨false, b.l⟩
def Msg.norm (m : Msg) : Msg := { m with salt := m.salt.full, sea := m.sea.full, tag := m.tag.full, tok := m.tok.full, rcd := m.rcd.full }
theorem full_eq {a b : By} : (a.l == b.l) = true ↔ a.full = b.full := by
 rw [beq_iff_eq, By.full, By.full]
 constructor
 ·intro h; rw [h]
 ·intro h; have := congrArg By.l h; exact this
theorem same_norm (m n : Msg) : m.same n = true ↔ m.norm = n.norm := by
 unfold Msg.same
 simp only [Bool.and_eq_true, full_eq, decide_eq_true_eq]
 simp only [beq_iff_eq]
 constructor
 ·rintro ⟨h1, h2, h3, h4, h5, h6, h7, h8, h9, h10, h11, h12⟩
  unfold Msg.norm
  rw [h1, h2, h3, h4, h5, h6, h7, h8, h9, h10, h11, h12]
 ·intro h
  have e := fun {α : Type} (f : Msg → α) => congrArg f h
  exact ⟨e Msg.kind, e Msg.proto, e Msg.channel, e Msg.e, e Msg.name, e Msg.a, e Msg.b, e Msg.salt, e Msg.sea, e Msg.tag, e Msg.tok, e Msg.rcd⟩
theorem fd_norm (m : Msg) (j : Nat) : (m.norm.fd j).b.l = (m.fd j).b.l ∧ (m.norm.fd j).ok = (m.fd j).ok ∧ (m.norm.fd j).k = (m.fd j).k := by
 rcases j with _ | _ | _ | _ | _ | _ | _ | _ | _ | _ | j <;> exact ⟨rfl, rfl, rfl⟩
theorem wantL_norm (m : Msg) : wantL m.norm = wantL m := rfl
theorem goodTo_norm (m : Msg) : ∀ n, m.norm.goodTo n = m.goodTo n
 | 0 => rfl
 | n + 1 => by
   obtain ⟨h1, h2, h3⟩ := fd_norm m n
   simp only [Msg.goodTo, goodTo_norm m n, Msg.good, h1, h2, h3, wantL_norm]
theorem rightW_norm (m : Msg) : m.norm.rightW = m.rightW := by
 unfold Msg.rightW
 rw [goodTo_norm]; rfl
theorem encW_norm (m : Msg) : ∀ n, m.norm.encW n = m.encW n
 | 0 => rfl
 | n + 1 => by
   obtain ⟨h1, h2, h3⟩ := fd_norm m n
   simp only [Msg.encW, encW_norm m n, h1, h3]
theorem isW_norm (m : Msg) : m.norm.isW = m.isW := by unfold Msg.isW; rw [rightW_norm, encW_norm]
theorem outW_norm (m : Msg) : m.norm.outW = m.outW := by unfold Msg.outW; rw [isW_norm, encW_norm]
theorem isW_same {m n : Msg} (h : m.norm = n.norm) : m.isW = n.isW := by rw [← isW_norm, h, isW_norm]
theorem outW_same {m n : Msg} (h : m.norm = n.norm) : m.outW = n.outW := by rw [← outW_norm, h, outW_norm]

def Msg.ne (m : Msg) (j : Nat) : Bool := decide (0 < ((m.fd j).b.l.length : Int))
def Msg.flds (m : Msg) (n : Nat) : List (Nat × List UInt8) := (List.range n).filterMap fun j => match m.ne j with | true => some (j + 1, (m.fd j).b.l) | false => none
theorem flds_succ (m : Msg) (n : Nat) : m.flds (n + 1) = m.flds n ++ (match m.ne n with | true => [(n + 1, (m.fd n).b.l)] | false => []) := by
 unfold Msg.flds
 rw [List.range_succ, List.filterMap_append]
 cases h : m.ne n <;> simp [h]
theorem fd_k (m : Msg) {j : Nat} (hj : j < 11) : (m.fd j).k = ((j + 1 : Nat) : Int) := by
 rcases j with _ | _ | _ | _ | _ | _ | _ | _ | _ | _ | _ | j <;> first | rfl | omega
theorem encW_flds (m : Msg) : ∀ n, n ≤ 11 → m.encW n = UInt8.ofInt m.kind :: fieldsB (m.flds n)
 | 0, _ => rfl
 | n + 1, hn => by
   rw [flds_succ, fieldsB_app]
   simp only [Msg.encW]
   rw [encW_flds m n (by omega), fd_k m (by omega), show decide (0 < ((m.fd n).b.l.length : Int)) = m.ne n from rfl]
   cases m.ne n with
   | true => simp [fieldB, fieldsB]
   | false => simp [fieldsB]
theorem flds_len (m : Msg) : ∀ n, (m.flds n).length ≤ n
 | 0 => by simp [Msg.flds]
 | n + 1 => by
   rw [flds_succ, List.length_append]
   have := flds_len m n
   cases m.ne n <;> simp <;> omega
theorem flds_ok (m : Msg) (h : m.goodTo 11 = true) : fieldsOK (m.flds 11) := by
 intro f hf
 unfold Msg.flds at hf
 obtain ⟨j, hj, e⟩ := List.mem_filterMap.1 hf
 have hj := List.mem_range.1 hj
 cases hn : m.ne j with
 | false => rw [hn] at e; cases e
 | true =>
   rw [hn] at e
   cases e
   have := m.fd_le h j hj
   exact ⟨by simp, by simp; omega, by simp only; omega⟩

def setIf (c : Bool) (m x : Msg) : Msg := if c = true then x else m
def Msg.upTo (m z : Msg) (nl : Bool) : Nat → Msg
 | 0 => z
 | n + 1 => setIf (m.ne n) (m.upTo z nl n) ((m.upTo z nl n).put ((n + 1 : Nat) : Int) ⟨nl, (m.fd n).b.l⟩)
def Msg.upToR (m z : Msg) (nl : Bool) : Nat → Msg
 | 0 => z
 | n + 1 => setIf (m.ne n) (m.upToR z nl n) ((m.upToR z nl n).setR ((n + 1 : Nat) : Int) ⟨nl, (m.fd n).b.l⟩)
theorem fold_upTo (m z : Msg) (nl : Bool) : ∀ n, (m.flds n).foldl (fun m f => m.put (f.1 : Int) ⟨nl, f.2⟩) z = m.upTo z nl n
 | 0 => rfl
 | n + 1 => by
   rw [flds_succ, List.foldl_append, fold_upTo m z nl n, Msg.upTo, setIf]
   cases m.ne n <;> rfl
theorem fold_upToR (m z : Msg) (nl : Bool) : ∀ n, (m.flds n).foldl (fun m f => m.setR (f.1 : Int) ⟨nl, f.2⟩) z = m.upToR z nl n
 | 0 => rfl
 | n + 1 => by
   rw [flds_succ, List.foldl_append, fold_upToR m z nl n, Msg.upToR, setIf]
   cases m.ne n <;> rfl
theorem setIf_get {α : Type} (f : Msg → α) (c : Bool) (m x : Msg) : f (setIf c m x) = if c = true then f x else f m := by cases c <;> rfl
theorem put_get {α : Type} (f : Msg → α) (m : Msg) (k : Int) (b : By) : f (m.put k b) =
 if k = 1 then f { m with proto := ((Rd.mk b false).num 1).i64 } else if k = 2 then f { m with name := b.l } else if k = 3 then f { m with a := (Rd.mk b false).num 4 } else if k = 4 then f { m with b := (Rd.mk b false).num 4 }
 else if k = 5 then f { m with salt := b } else if k = 6 then f { m with sea := b } else if k = 7 then f { m with tag := b } else if k = 8 then f { m with tok := b } else if k = 9 then f { m with rcd := b }
 else if k = 10 then f { m with channel := ((Rd.mk b false).num 8).i64 } else if k = 11 then f { m with e := ((Rd.mk b false).num 1).i64 } else f m := by
 unfold Msg.put; simp only [apply_ite f]
theorem setR_get {α : Type} (f : Msg → α) (m : Msg) (k : Int) (b : By) : f (m.setR k b) =
 if k = 1 then f { m with proto := numR b.l } else if k = 2 then f { m with name := b.l } else if k = 3 then f { m with a := Num.read (cut32 b.l) } else if k = 4 then f { m with b := Num.read (cut32 b.l) }
 else if k = 5 then f { m with salt := ⟨false, b.l⟩ } else if k = 6 then f { m with sea := ⟨false, b.l⟩ } else if k = 7 then f { m with tag := ⟨false, b.l⟩ } else if k = 8 then f { m with tok := ⟨false, b.l⟩ } else if k = 9 then f { m with rcd := ⟨false, b.l⟩ }
 else if k = 10 then f { m with channel := numR b.l } else if k = 11 then f { m with e := numR b.l } else f m := by
 unfold Msg.setR; simp only [apply_ite f]
theorem upTo_kind (m z : Msg) (nl : Bool) : (m.upTo z nl 11).kind = z.kind := by simp [Msg.upTo, setIf_get Msg.kind, put_get Msg.kind]
theorem upTo_proto (m z : Msg) (nl : Bool) : (m.upTo z nl 11).proto = if m.ne 0 = true then ((Rd.mk ⟨nl, (m.fd 0).b.l⟩ false).num 1).i64 else z.proto := by simp [Msg.upTo, setIf_get Msg.proto, put_get Msg.proto]
theorem upTo_name (m z : Msg) (nl : Bool) : (m.upTo z nl 11).name = if m.ne 1 = true then (m.fd 1).b.l else z.name := by simp [Msg.upTo, setIf_get Msg.name, put_get Msg.name]
theorem upTo_a (m z : Msg) (nl : Bool) : (m.upTo z nl 11).a = if m.ne 2 = true then (Rd.mk ⟨nl, (m.fd 2).b.l⟩ false).num 4 else z.a := by simp [Msg.upTo, setIf_get Msg.a, put_get Msg.a]
theorem upTo_b (m z : Msg) (nl : Bool) : (m.upTo z nl 11).b = if m.ne 3 = true then (Rd.mk ⟨nl, (m.fd 3).b.l⟩ false).num 4 else z.b := by simp [Msg.upTo, setIf_get Msg.b, put_get Msg.b]
theorem upTo_channel (m z : Msg) (nl : Bool) : (m.upTo z nl 11).channel = if m.ne 9 = true then ((Rd.mk ⟨nl, (m.fd 9).b.l⟩ false).num 8).i64 else z.channel := by simp [Msg.upTo, setIf_get Msg.channel, put_get Msg.channel]
theorem upTo_e (m z : Msg) (nl : Bool) : (m.upTo z nl 11).e = if m.ne 10 = true then ((Rd.mk ⟨nl, (m.fd 10).b.l⟩ false).num 1).i64 else z.e := by simp [Msg.upTo, setIf_get Msg.e, put_get Msg.e]
theorem upTo_salt (m z : Msg) (nl : Bool) : (m.upTo z nl 11).salt.l = if m.ne 4 = true then (m.fd 4).b.l else z.salt.l := by simp [Msg.upTo, setIf_get (fun m => m.salt.l), put_get (fun m => m.salt.l)]
theorem upTo_sea (m z : Msg) (nl : Bool) : (m.upTo z nl 11).sea.l = if m.ne 5 = true then (m.fd 5).b.l else z.sea.l := by simp [Msg.upTo, setIf_get (fun m => m.sea.l), put_get (fun m => m.sea.l)]
theorem upTo_tag (m z : Msg) (nl : Bool) : (m.upTo z nl 11).tag.l = if m.ne 6 = true then (m.fd 6).b.l else z.tag.l := by simp [Msg.upTo, setIf_get (fun m => m.tag.l), put_get (fun m => m.tag.l)]
theorem upTo_tok (m z : Msg) (nl : Bool) : (m.upTo z nl 11).tok.l = if m.ne 7 = true then (m.fd 7).b.l else z.tok.l := by simp [Msg.upTo, setIf_get (fun m => m.tok.l), put_get (fun m => m.tok.l)]
theorem upTo_rcd (m z : Msg) (nl : Bool) : (m.upTo z nl 11).rcd.l = if m.ne 8 = true then (m.fd 8).b.l else z.rcd.l := by simp [Msg.upTo, setIf_get (fun m => m.rcd.l), put_get (fun m => m.rcd.l)]
theorem upToR_kind (m z : Msg) (nl : Bool) : (m.upToR z nl 11).kind = z.kind := by simp [Msg.upToR, setIf_get Msg.kind, setR_get Msg.kind]
theorem upToR_proto (m z : Msg) (nl : Bool) : (m.upToR z nl 11).proto = if m.ne 0 = true then numR (m.fd 0).b.l else z.proto := by simp [Msg.upToR, setIf_get Msg.proto, setR_get Msg.proto]
theorem upToR_name (m z : Msg) (nl : Bool) : (m.upToR z nl 11).name = if m.ne 1 = true then (m.fd 1).b.l else z.name := by simp [Msg.upToR, setIf_get Msg.name, setR_get Msg.name]
theorem upToR_a (m z : Msg) (nl : Bool) : (m.upToR z nl 11).a = if m.ne 2 = true then Num.read (cut32 (m.fd 2).b.l) else z.a := by simp [Msg.upToR, setIf_get Msg.a, setR_get Msg.a]
theorem upToR_b (m z : Msg) (nl : Bool) : (m.upToR z nl 11).b = if m.ne 3 = true then Num.read (cut32 (m.fd 3).b.l) else z.b := by simp [Msg.upToR, setIf_get Msg.b, setR_get Msg.b]
theorem upToR_channel (m z : Msg) (nl : Bool) : (m.upToR z nl 11).channel = if m.ne 9 = true then numR (m.fd 9).b.l else z.channel := by simp [Msg.upToR, setIf_get Msg.channel, setR_get Msg.channel]
theorem upToR_e (m z : Msg) (nl : Bool) : (m.upToR z nl 11).e = if m.ne 10 = true then numR (m.fd 10).b.l else z.e := by simp [Msg.upToR, setIf_get Msg.e, setR_get Msg.e]
theorem upToR_salt (m z : Msg) (nl : Bool) : (m.upToR z nl 11).salt.l = if m.ne 4 = true then (m.fd 4).b.l else z.salt.l := by simp [Msg.upToR, setIf_get (fun m => m.salt.l), setR_get (fun m => m.salt.l)]
theorem upToR_sea (m z : Msg) (nl : Bool) : (m.upToR z nl 11).sea.l = if m.ne 5 = true then (m.fd 5).b.l else z.sea.l := by simp [Msg.upToR, setIf_get (fun m => m.sea.l), setR_get (fun m => m.sea.l)]
theorem upToR_tag (m z : Msg) (nl : Bool) : (m.upToR z nl 11).tag.l = if m.ne 6 = true then (m.fd 6).b.l else z.tag.l := by simp [Msg.upToR, setIf_get (fun m => m.tag.l), setR_get (fun m => m.tag.l)]
theorem upToR_tok (m z : Msg) (nl : Bool) : (m.upToR z nl 11).tok.l = if m.ne 7 = true then (m.fd 7).b.l else z.tok.l := by simp [Msg.upToR, setIf_get (fun m => m.tok.l), setR_get (fun m => m.tok.l)]
theorem upToR_rcd (m z : Msg) (nl : Bool) : (m.upToR z nl 11).rcd.l = if m.ne 8 = true then (m.fd 8).b.l else z.rcd.l := by simp [Msg.upToR, setIf_get (fun m => m.rcd.l), setR_get (fun m => m.rcd.l)]
theorem num_all {z bad : Bool} (l : List UInt8) : (Rd.mk ⟨z, l⟩ bad).num (l.length : Int) = Num.read l := by
 rw [Rd.num, got_le' (Nat.le_refl _), List.take_length]
theorem cut32_all {l : List UInt8} (h : l.length ≤ 32) : cut32 l = l := by
 rw [cut32, if_neg (by omega)]; simp
theorem low_eq {x : Num} (h : x.low = true) : (⟨x.a0, 0, 0, 0, 0, 0, 0, 0⟩ : Num) = x := by
 simp only [Num.low, Bool.and_eq_true, beq_iff_eq] at h
 obtain ⟨h1, h2, h3, h4, h5, h6, h7⟩ := h
 cases x; simp only at *; subst h1; subst h2; subst h3; subst h4; subst h5; subst h6; subst h7; rfl
theorem rights {m : Msg} (h : m.rightW = true) : 0 ≤ m.proto ∧ m.proto ≤ 2 ∧ m.a.low = true ∧ m.b.low = true ∧ 0 ≤ m.channel ∧ 0 ≤ m.e ∧ m.e ≤ 11 ∧ 1 ≤ m.kind ∧ m.kind ≤ 12 ∧ m.name.length ≤ 16 := by
 have h0 := h
 unfold Msg.rightW at h0
 rw [right_eq] at h
 simp only [Msg.rightR, Msg.okR, Bool.and_eq_true, Bool.or_eq_true, decide_eq_true_eq, beq_iff_eq, Bool.not_eq_true', decide_eq_false_iff_not] at h h0
 obtain ⟨_, h1, h2, hn, h3, h4, _, _, _, _, _, h5, h6, h7⟩ := h
 refine ⟨by omega, by omega, h3, h4, h5, h6, h7, by omega, by omega, ?_⟩
 rcases hn with hn | hn
 ·rw [hn]; simp
 ·exact nameOK_len hn
theorem empty_of {l : List UInt8} (h : decide (0 < (l.length : Int)) = false) : l = [] := by
 have := of_decide_eq_false h
 exact List.eq_nil_of_length_eq_zero (by omega)
theorem whole1 {n : Int} (h : 0 ≤ n ∧ n ≤ 255) (h0 : decide (0 < ((wholeB n 1).l.length : Int)) = true) : (wholeB n 1).l = [UInt8.ofInt n] ∧ ((UInt8.ofInt n).toNat : Int) = n := by
 have hn : n ≠ 0 := fun e => by subst e; exact absurd h0 (by decide)
 refine ⟨by rw [wholeB, if_neg hn]; exact atB1_from h.1, ?_⟩
 rw [u8_ofInt]; omega
theorem whole0 {n : Int} {k : Nat} (hk : 0 < k ∧ k ≤ 32) (h0 : decide (0 < ((wholeB n k).l.length : Int)) = false) : n = 0 := by
 have := empty_of h0
 by_cases h : n = 0
 ·exact h
 ·rw [wholeB, if_neg h] at this
  have h2 : (atB (Num.from n) k).length = k := atB_len _ _ hk.2
  have h3 : (atB (Num.from n) k) = [] := this
  rw [h3] at h2; simp at h2; omega
theorem whole8 {n : Int} (h : 0 ≤ n) (h0 : decide (0 < ((wholeB n 8).l.length : Int)) = true) : (wholeB n 8).l = atB (Num.from n) 8 := by
 have hn : n ≠ 0 := fun e => by subst e; exact absurd h0 (by decide)
 rw [wholeB, if_neg hn]
theorem four1 {x : Num} (h0 : decide (0 < ((fourB x).l.length : Int)) = true) : (fourB x).l = be4 x.a0 := by
 have hn : x ≠ Num.zero := fun e => by subst e; exact absurd h0 (by decide)
 rw [fourB, if_neg hn]
theorem four0 {x : Num} (h0 : decide (0 < ((fourB x).l.length : Int)) = false) : x = Num.zero := by
 by_cases h : x = Num.zero
 ·exact h
 ·rw [fourB, if_neg h] at h0; exact absurd h0 (by simp [be4])
theorem upTo_same (m : Msg) (h : m.rightW = true) (hc : m.channel < 9223372036854775808) (nl : Bool) : (m.upTo { Msg.zero with kind := m.kind } nl 11).norm = m.norm := by
 obtain ⟨p1, p2, ha, hb, hch, e1, e2, _, _, _⟩ := rights h
 rw [← same_norm]
 unfold Msg.same
 rw [upTo_kind, upTo_proto, upTo_channel, upTo_e, upTo_name, upTo_a, upTo_b, upTo_salt, upTo_sea, upTo_tag, upTo_tok, upTo_rcd]
 simp only [Bool.and_eq_true, beq_iff_eq, decide_eq_true_eq]
 have n0 := m.ne
 refine ⟨by trivial, ?_, ?_, ?_, ?_, ?_, ?_, ?_, ?_, ?_, ?_, ?_⟩
 ·split
  ·rename_i k
   obtain ⟨w1, w2⟩ := whole1 (n := m.proto) (by omega) k
   show ((Rd.mk ⟨nl, (wholeB m.proto 1).l⟩ false).num 1).i64 = _
   rw [w1, num_one, w2]
  ·rename_i k
   exact (whole0 (by omega) (Bool.eq_false_iff.2 k)).symm
 ·split
  ·rename_i k
   show ((Rd.mk ⟨nl, (wholeB m.channel 8).l⟩ false).num 8).i64 = _
   rw [whole8 hch k]
   have := num_all (z := nl) (bad := false) (atB (Num.from m.channel) 8)
   rw [atB_len _ _ (by omega)] at this
   rw [show (8 : Int) = ((8 : Nat) : Int) from rfl, this, i64_from ⟨hch, hc⟩]
  ·rename_i k
   exact (whole0 (by omega) (Bool.eq_false_iff.2 k)).symm
 ·split
  ·rename_i k
   obtain ⟨w1, w2⟩ := whole1 (n := m.e) (by omega) k
   show ((Rd.mk ⟨nl, (wholeB m.e 1).l⟩ false).num 1).i64 = _
   rw [w1, num_one, w2]
  ·rename_i k
   exact (whole0 (by omega) (Bool.eq_false_iff.2 k)).symm
 ·split
  ·rfl
  ·rename_i k; exact (empty_of (Bool.eq_false_iff.2 k)).symm
 ·split
  ·rename_i k
   show (Rd.mk ⟨nl, (fourB m.a).l⟩ false).num 4 = _
   rw [four1 k]
   exact (num_all (z := nl) (bad := false) (be4 m.a.a0)).trans ((read_be4 _).trans (low_eq ha))
  ·rename_i k; exact (four0 (Bool.eq_false_iff.2 k)).symm
 ·split
  ·rename_i k
   show (Rd.mk ⟨nl, (fourB m.b).l⟩ false).num 4 = _
   rw [four1 k]
   exact (num_all (z := nl) (bad := false) (be4 m.b.a0)).trans ((read_be4 _).trans (low_eq hb))
  ·rename_i k; exact (four0 (Bool.eq_false_iff.2 k)).symm
 all_goals
  split
  ·rfl
  ·rename_i k; exact (empty_of (Bool.eq_false_iff.2 k)).symm
theorem upToR_same (m : Msg) (h : m.rightW = true) (hc : m.channel < 9223372036854775808) (nl : Bool) : (m.upToR { Msg.zero with kind := m.kind } nl 11).norm = m.norm := by
 obtain ⟨p1, p2, ha, hb, hch, e1, e2, _, _, _⟩ := rights h
 rw [← same_norm]
 unfold Msg.same
 rw [upToR_kind, upToR_proto, upToR_channel, upToR_e, upToR_name, upToR_a, upToR_b, upToR_salt, upToR_sea, upToR_tag, upToR_tok, upToR_rcd]
 simp only [Bool.and_eq_true, beq_iff_eq, decide_eq_true_eq]
 refine ⟨by trivial, ?_, ?_, ?_, ?_, ?_, ?_, ?_, ?_, ?_, ?_, ?_⟩
 ·split
  ·rename_i k
   obtain ⟨w1, w2⟩ := whole1 (n := m.proto) (by omega) k
   show numR (wholeB m.proto 1).l = _
   rw [w1, numR_byte, w2]
  ·rename_i k
   exact (whole0 (by omega) (Bool.eq_false_iff.2 k)).symm
 ·split
  ·rename_i k
   show numR (wholeB m.channel 8).l = _
   rw [whole8 hch k, atB8_from hch, numR_eight ⟨hch, hc⟩]
  ·rename_i k
   exact (whole0 (by omega) (Bool.eq_false_iff.2 k)).symm
 ·split
  ·rename_i k
   obtain ⟨w1, w2⟩ := whole1 (n := m.e) (by omega) k
   show numR (wholeB m.e 1).l = _
   rw [w1, numR_byte, w2]
  ·rename_i k
   exact (whole0 (by omega) (Bool.eq_false_iff.2 k)).symm
 ·split
  ·rfl
  ·rename_i k; exact (empty_of (Bool.eq_false_iff.2 k)).symm
 ·split
  ·rename_i k
   show Num.read (cut32 (fourB m.a).l) = _
   rw [four1 k, cut32_all (by simp [be4]), read_be4, low_eq ha]
  ·rename_i k; exact (four0 (Bool.eq_false_iff.2 k)).symm
 ·split
  ·rename_i k
   show Num.read (cut32 (fourB m.b).l) = _
   rw [four1 k, cut32_all (by simp [be4]), read_be4, low_eq hb]
  ·rename_i k; exact (four0 (Bool.eq_false_iff.2 k)).symm
 all_goals
  split
  ·rfl
  ·rename_i k; exact (empty_of (Bool.eq_false_iff.2 k)).symm

theorem fieldsB_len : ∀ fs : List (Nat × List UInt8), fs.length ≤ (fieldsB fs).length
 | [] => by simp
 | f :: r => by
   have := fieldsB_len r
   simp only [fieldsB, List.length_cons, List.length_append]; omega
theorem outW_l {m : Msg} (h : m.isW = true) : ∃ x y, m.outW.l = x :: y :: UInt8.ofInt m.kind :: fieldsB (m.flds 11) := by
 refine ⟨UInt8.ofInt (((m.encW 11).length : Int) / 2 ^ 8), UInt8.ofInt ((m.encW 11).length : Int), ?_⟩
 rw [Msg.outW, h]
 simp only
 rw [encW_flds m 11 (by omega)]
 rfl
theorem decW_back (m : Msg) (nl : Bool) (h : m.isW = true) (hc : m.channel < 9223372036854775808) : ∃ d, decW ⟨nl, m.outW.l⟩ = some d ∧ d.norm = m.norm := by
 have hr : m.rightW = true := by unfold Msg.isW at h; simp only [Bool.and_eq_true] at h; exact h.1
 have hg : m.goodTo 11 = true := by unfold Msg.rightW at hr; simp only [Bool.and_eq_true] at hr; exact hr.2.2
 have hs := upTo_same m hr hc nl
 have hk := rights hr
 obtain ⟨x, y, e⟩ := outW_l h
 refine ⟨m.upTo { Msg.zero with kind := m.kind } nl 11, ?_, hs⟩
 have e0 : rd0 ⟨nl, m.outW.l⟩ = ⟨⟨nl, fieldsB (m.flds 11)⟩, false⟩ := by
  rw [rd0, e, show (2 : Int) = ((2 : Nat) : Int) from rfl, next_le' (by simp), List.drop_succ_cons, List.drop_succ_cons, List.drop_zero, next_one]
 have e1 : msg0 ⟨nl, m.outW.l⟩ = { Msg.zero with kind := m.kind } := by
  rw [msg0, e, show (2 : Int) = ((2 : Nat) : Int) from rfl, next_le' (by simp), List.drop_succ_cons, List.drop_succ_cons, List.drop_zero, num_one, u8_ofInt, show m.kind % 256 = m.kind by omega]
 have e2 : decLoop (rd0 ⟨nl, m.outW.l⟩).b.l.length (msg0 ⟨nl, m.outW.l⟩) (rd0 ⟨nl, m.outW.l⟩) = some (m.upTo { Msg.zero with kind := m.kind } nl 11) := by
  rw [e0, e1, decLoop_fields nl (m.flds 11) _ _ (fieldsB_len _) (flds_ok m hg), fold_upTo]
 rw [decW, e2]
 simp only
 rw [isW_same hs, outW_same hs, h]
 simp
theorem decR_back (m : Msg) (nl : Bool) (h : m.isW = true) (hc : m.channel < 9223372036854775808) : ∃ d, decR ⟨nl, m.outW.l⟩ = some d ∧ d.norm = m.norm := by
 have hr : m.rightW = true := by unfold Msg.isW at h; simp only [Bool.and_eq_true] at h; exact h.1
 have hg : m.goodTo 11 = true := by unfold Msg.rightW at hr; simp only [Bool.and_eq_true] at hr; exact hr.2.2
 have hs := upToR_same m hr hc nl
 have hk := rights hr
 obtain ⟨x, y, e⟩ := outW_l h
 refine ⟨m.upToR { Msg.zero with kind := m.kind } nl 11, ?_, hs⟩
 have e1 : msgR ⟨nl, m.outW.l⟩ = { Msg.zero with kind := m.kind } := by
  rw [msgR, e]
  show { Msg.zero with kind := ((UInt8.ofInt m.kind).toNat : Int) } = _
  rw [u8_ofInt, show m.kind % 256 = m.kind by omega]
 have e2 : decLoopR ⟨nl, m.outW.l⟩ m.outW.l.length (msgR ⟨nl, m.outW.l⟩) 3 = m.upToR { Msg.zero with kind := m.kind } nl 11 := by
  have hl : (m.flds 11).length ≤ m.outW.l.length := by
   have := fieldsB_len (m.flds 11)
   rw [e]; simp only [List.length_cons]; omega
  have := decLoopR_fields nl (m.flds 11) m.outW.l.length { Msg.zero with kind := m.kind } [x, y, UInt8.ofInt m.kind] hl (flds_ok m hg)
  rw [e1, ← fold_upToR, ← this]
  rw [show [x, y, UInt8.ofInt m.kind] ++ fieldsB (m.flds 11) = m.outW.l from e.symm]; rfl
 have h3 : ¬ m.outW.l.length < 3 := by rw [e]; simp
 rw [decR, decide_eq_false (show ¬ (By.mk nl m.outW.l).l.length < 3 from h3)]
 simp only [e2]
 rw [← is_eq, ← out_eq, isW_same hs, outW_same hs, h]
 simp
theorem ior_lt (a b : Int) : ior a b < 9223372036854775808 := by
 unfold ior; rw [IntKind.wrap_i64]; omega
theorem numR_lt (l : List UInt8) : numR l < 9223372036854775808 := by
 unfold numR
 cases min l.length 8 with
 | zero => simp [numTo]
 | succ n => exact ior_lt _ _
theorem ite_lt {c : Prop} [Decidable c] {x y k : Int} (h1 : x < k) (h2 : y < k) : (if c then x else y) < k := by split <;> assumption
theorem put_chan (m : Msg) (k : Int) (b : By) (h : m.channel < 9223372036854775808) : (m.put k b).channel < 9223372036854775808 := by
 rw [put_get Msg.channel]
 have := i64_lt ((Rd.mk b false).num 8)
 repeat' (first | exact h | exact this | apply ite_lt)
theorem setR_chan (m : Msg) (k : Int) (b : By) (h : m.channel < 9223372036854775808) : (m.setR k b).channel < 9223372036854775808 := by
 rw [setR_get Msg.channel]
 have := numR_lt b.l
 repeat' (first | exact h | exact this | apply ite_lt)
theorem decLoop_chan : ∀ (n : Nat) (m : Msg) (r : Rd) (d : Msg), m.channel < 9223372036854775808 → decLoop n m r = some d → d.channel < 9223372036854775808
 | 0, m, r, d, h, e => by cases e; exact h
 | n + 1, m, r, d, h, e => by
   rw [decLoop] at e
   split at e
   ·cases e; exact h
   ·split at e
    ·exact decLoop_chan n _ _ d (put_chan m _ _ h) e
    ·cases e
theorem decLoopR_chan (b : By) : ∀ (n : Nat) (m : Msg) (a : Nat), m.channel < 9223372036854775808 → (decLoopR b n m a).channel < 9223372036854775808
 | 0, m, a, h => h
 | n + 1, m, a, h => by
   rw [decLoopR]
   split
   ·exact decLoopR_chan b n _ _ (setR_chan m _ _ h)
   ·exact h
theorem decW_some {b : By} {m : Msg} (h : decW b = some m) : m.isW = true ∧ m.outW.l = b.l ∧ m.channel < 9223372036854775808 := by
 unfold decW at h
 split at h
 ·rename_i d hd
  split at h
  ·rename_i hb
   cases h
   simp only [Bool.and_eq_true, beq_iff_eq] at hb
   exact ⟨hb.1, hb.2, decLoop_chan _ _ _ _ (by show (0 : Int) < _; omega) hd⟩
  ·cases h
 ·cases h
theorem decR_some {b : By} {m : Msg} (h : decR b = some m) : m.isW = true ∧ m.outW.l = b.l ∧ m.channel < 9223372036854775808 := by
 unfold decR at h
 split at h
 ·cases h
 ·split at h
  ·rename_i hb
   cases h
   simp only [Bool.and_eq_true, beq_iff_eq] at hb
   refine ⟨?_, ?_, decLoopR_chan b _ _ _ (by show (0 : Int) < _; omega)⟩
   ·rw [is_eq]; exact hb.1
   ·rw [out_eq]; exact hb.2
  ·cases h
theorem dec_agree (b : By) : (decW b).isSome = (decR b).isSome ∧ (orZ (decW b)).norm = (orZ (decR b)).norm := by
 cases hw : decW b with
 | some m =>
   obtain ⟨h1, h2, h3⟩ := decW_some hw
   obtain ⟨d, e1, e2⟩ := decR_back m b.nil h1 h3
   rw [h2] at e1
   have e1 : decR b = some d := e1
   rw [e1]; exact ⟨rfl, e2.symm⟩
 | none =>
   cases hr : decR b with
   | none => exact ⟨rfl, rfl⟩
   | some m =>
     obtain ⟨h1, h2, h3⟩ := decR_some hr
     obtain ⟨d, e1, e2⟩ := decW_back m b.nil h1 h3
     rw [h2] at e1
     have e1 : decW b = some d := e1
     rw [hw] at e1; cases e1
theorem dec_same (b : By) : (orZ (decW b)).same (orZ (decR b)) = true := (same_norm _ _).2 (dec_agree b).2
theorem out_inj {m n : Msg} (hm : m.isW = true) (hn : n.isW = true) (cm : m.channel < 9223372036854775808) (cn : n.channel < 9223372036854775808) : (m.outW.l == n.outW.l) = m.same n := by
 rw [Bool.eq_iff_iff, beq_iff_eq, same_norm]
 constructor
 ·intro h
  obtain ⟨d, e1, e2⟩ := decW_back m false hm cm
  obtain ⟨d', e3, e4⟩ := decW_back n false hn cn
  rw [h] at e1
  rw [e1] at e3
  cases e3
  exact e2.symm.trans e4
 ·intro h; rw [outW_same h]
set_option maxRecDepth 100000

theorem iteP {α : Type} {c : Prop} [Decidable c] {P : α → Prop} {x y : α} (h1 : c → P x) (h2 : ¬ c → P y) : P (if c then x else y) := by
 split
 ·exact h1 ‹_›
 ·exact h2 ‹_›
theorem right_of (m : Msg) (hk : 1 ≤ m.kind ∧ m.kind ≤ 12) (hh : ∀ j, j < 11 → m.has (j + 1) = decide (((j + 1 : Nat) : Int) ∈ wantL m)) (hp : 0 ≤ m.proto ∧ m.proto ≤ 2) (hn : m.name = [] ∨ nameOK m.name = true) (ha : m.a.low = true) (hb : m.b.low = true)
  (h1 : m.salt.l.length ≤ 16) (h2 : m.sea.l.length ≤ 48) (h3 : m.tag.l.length ≤ 16) (h4 : m.tok.l.length ≤ 80) (h5 : m.rcd.l.length ≤ 120) (hc : 0 ≤ m.channel) (he : 0 ≤ m.e ∧ m.e ≤ 11) : m.rightW = true := by
 rw [right_eq]
 simp only [Msg.rightR, Msg.okR, Bool.and_eq_true, Bool.or_eq_true, decide_eq_true_eq, beq_iff_eq, Bool.not_eq_true', decide_eq_false_iff_not]
 refine ⟨?_, by omega, by omega, hn, ha, hb, by omega, by omega, by omega, by omega, by omega, hc, he⟩
 have := (there_want m).2 hh
 rw [wantN, if_pos hk]; simpa using this
theorem mkK_in (k : Int) : 1 ≤ mkK k ∧ mkK k ≤ 12 := by
 have h := within1_in (a := k) (b := 12) (by omega)
 unfold mkK; rw [w64_in (by omega)]; omega
theorem mkP_in (n : Int) : 1 ≤ mkP n ∧ mkP n ≤ 2 := by
 have h := within1_in (a := n) (b := 2) (by omega)
 unfold mkP; rw [w64_in (by omega)]; omega
theorem from_low {n : Int} (h : 0 < n ∧ n < 4294967296) : (Num.from n).low = true ∧ (Num.from n).isZ = false := by
 have h0 := u32_ofInt n
 have h1 := u32_ofInt (n / 2 ^ 32)
 have e1 : UInt32.ofInt (n / 2 ^ 32) = 0 := UInt32.toNat_inj.1 (by rw [show (0 : UInt32).toNat = 0 from rfl]; omega)
 have e0 : UInt32.ofInt n ≠ 0 := fun e => by rw [e, show (0 : UInt32).toNat = 0 from rfl] at h0; omega
 rw [Num.from, if_neg (by omega), e1]
 refine ⟨rfl, ?_⟩
 simp only [Num.isZ, beq_eq_false_iff_ne.2 e0, Bool.false_and]
theorem mkA_low (n : Int) : (mkA n).low = true ∧ (mkA n).isZ = false := by
 have h := within1_in (a := n) (b := 4294967295) (by omega)
 exact from_low (by rw [w64_in (by omega)]; omega)
theorem mkC_low (n : Int) : (mkC n).low = true ∧ (mkC n).isZ = false := by
 have h := within1_in (a := w64 (n.tdiv 3)) (b := 70000) (by omega)
 exact from_low (by rw [w64_in (by omega)]; omega)
theorem nameC_good (x : UInt8) : goodB (nameC x) = true := by
 have h := within1_in (a := (x.toNat : Int)) (b := 94) (by omega)
 have h2 := u8_ofInt (w64 (33 + within1 (x.toNat : Int) 94))
 rw [w64_in (by omega)] at h2
 have h3 : (nameC x).toNat = (33 + within1 (x.toNat : Int) 94).toNat := by
  unfold nameC; rw [w64_in (by omega)] at *; omega
 unfold goodB
 rw [decide_eq_false (by omega), decide_eq_false (by omega)]; rfl
theorem nameL_ok (s : List UInt8) : nameOK (nameL s) = true ∧ nameL s ≠ [] := by
 cases s with
 | nil => exact ⟨by decide, by decide⟩
 | cons x l =>
   have e : nameL (x :: l) = ((x :: l).map nameC).take 16 := rfl
   rw [e]
   refine ⟨?_, by simp⟩
   rw [nameOK, decide_eq_true (show 1 ≤ (((x :: l).map nameC).take 16).length by simp), decide_eq_true (show (((x :: l).map nameC).take 16).length ≤ 16 by simp; omega), Bool.true_and, Bool.true_and, List.all_eq_true]
   intro y hy
   obtain ⟨z, _, rfl⟩ := List.mem_map.1 (List.mem_of_mem_take hy)
   exact nameC_good z
theorem someB_len (b : By) (n most : Int) (h : 0 < most ∧ most ≤ 1000) : 1 ≤ (someB b n most).l.length ∧ ((someB b n most).l.length : Int) ≤ most := by
 have := (someK_eq n most h).2
 rw [someB, someL, someTo_len]; omega
theorem some_has (b : By) (n most : Int) (h : 0 < most ∧ most ≤ 1000) : decide (0 < ((someB b n most).l.length : Int)) = true := by
 have := someB_len b n most h
 exact decide_eq_true (by omega)
theorem right_of' (m : Msg) (B : List Bool) (L : List Int) (hB : [m.has 1, m.has 2, m.has 3, m.has 4, m.has 5, m.has 6, m.has 7, m.has 8, m.has 9, m.has 10, m.has 11] = B) (hL : wantL m = L) (hBL : ((List.range 11).all fun j => B.getD j false == decide (((j + 1 : Nat) : Int) ∈ L)) = true)
  (hk : 1 ≤ m.kind ∧ m.kind ≤ 12) (hp : 0 ≤ m.proto ∧ m.proto ≤ 2) (hn : m.name = [] ∨ nameOK m.name = true) (ha : m.a.low = true) (hb : m.b.low = true)
  (h1 : m.salt.l.length ≤ 16) (h2 : m.sea.l.length ≤ 48) (h3 : m.tag.l.length ≤ 16) (h4 : m.tok.l.length ≤ 80) (h5 : m.rcd.l.length ≤ 120) (hc : 0 ≤ m.channel) (he : 0 ≤ m.e ∧ m.e ≤ 11) : m.rightW = true := by
 refine right_of m hk (fun j hj => ?_) hp hn ha hb h1 h2 h3 h4 h5 hc he
 have h := List.all_eq_true.1 hBL j (List.mem_range.2 hj)
 rw [beq_iff_eq, ← hB, ← hL] at h
 rw [← h]
 rcases j with _ | _ | _ | _ | _ | _ | _ | _ | _ | _ | _ | j <;> first | rfl | omega
theorem has_of {m : Msg} {b1 b2 b3 b4 b5 b6 b7 b8 b9 b10 b11 : Bool} (h1 : (!(m.proto == 0)) = b1) (h2 : (!(m.name == [])) = b2) (h3 : (!m.a.isZ) = b3) (h4 : (!m.b.isZ) = b4) (h5 : decide (0 < (m.salt.l.length : Int)) = b5) (h6 : decide (0 < (m.sea.l.length : Int)) = b6)
  (h7 : decide (0 < (m.tag.l.length : Int)) = b7) (h8 : decide (0 < (m.tok.l.length : Int)) = b8) (h9 : decide (0 < (m.rcd.l.length : Int)) = b9) (h10 : (!(m.channel == 0)) = b10) (h11 : (!(m.e == 0)) = b11) :
  [m.has 1, m.has 2, m.has 3, m.has 4, m.has 5, m.has 6, m.has 7, m.has 8, m.has 9, m.has 10, m.has 11] = [b1, b2, b3, b4, b5, b6, b7, b8, b9, b10, b11] := by
 subst h1; subst h2; subst h3; subst h4; subst h5; subst h6; subst h7; subst h8; subst h9; subst h10; subst h11; rfl
theorem kk (k : Int) (h : 1 ≤ k ∧ k ≤ 12) : 1 ≤ k ∧ k ≤ 12 := h
theorem pp (k : Int) (h : 0 ≤ k ∧ k ≤ 2) : 0 ≤ k ∧ k ≤ 2 := h
theorem ee0 : (0 : Int) ≤ 0 ∧ (0 : Int) ≤ 11 := by decide
theorem not_zero {n : Int} (h : 1 ≤ n) : (!(n == 0)) = true := by rw [beq_eq_false_iff_ne.2 (by omega)]; rfl
theorem not_nil {l : List UInt8} (h : l ≠ []) : (!(l == [])) = true := by rw [beq_eq_false_iff_ne.2 h]; rfl
theorem not_f' {b : Bool} (h : b = false) : (!b) = true := by rw [h]; rfl
set_option maxHeartbeats 1000000 in
theorem make_right (kind n : Int) (s : List UInt8) (b : By) : (makeM kind n s b).rightW = true := by
 have hK := mkK_in kind
 have hP := mkP_in n
 obtain ⟨a1, a2⟩ := mkA_low n
 obtain ⟨c1, c2⟩ := mkC_low n
 obtain ⟨n1, n2⟩ := nameL_ok s
 have l16 := someB_len b n 16 (by omega)
 have l48 := someB_len b n 48 (by omega)
 have l80 := someB_len b n 80 (by omega)
 have l120 := someB_len b n 120 (by omega)
 have l110 := someB_len b (w64 (n.tdiv 5)) 110 (by omega)
 have l167 := someB_len b (w64 (n.tdiv 7)) 16 (by omega)
 have hch : 1 ≤ w64 (1 + within1 n 1099511627776) := by
  have h := within1_in (a := n) (b := 1099511627776) (by omega)
  rw [w64_in (by omega)]; omega
 have he : 1 ≤ w64 (1 + within1 n 11) ∧ w64 (1 + within1 n 11) ≤ 11 := by
  have h := within1_in (a := n) (b := 11) (by omega)
  rw [w64_in (by omega)]; omega
 unfold makeM
 generalize mkK kind = K at *
 generalize mkP n = P at *
 generalize mkA n = A at *
 generalize mkC n = C at *
 generalize nameL s = N at *
 generalize someB b n 16 = B16 at *
 generalize someB b n 48 = B48 at *
 generalize someB b n 80 = B80 at *
 generalize someB b n 120 = B120 at *
 generalize someB b (w64 (n.tdiv 5)) 110 = B110 at *
 generalize someB b (w64 (n.tdiv 7)) 16 = B167 at *
 generalize w64 (1 + within1 n 1099511627776) = CH at *
 generalize w64 (1 + within1 n 11) = EE at *
 have p16 : decide (0 < (B16.l.length : Int)) = true := decide_eq_true (by omega)
 have p48 : decide (0 < (B48.l.length : Int)) = true := decide_eq_true (by omega)
 have p80 : decide (0 < (B80.l.length : Int)) = true := decide_eq_true (by omega)
 have p120 : decide (0 < (B120.l.length : Int)) = true := decide_eq_true (by omega)
 have p110 : decide (0 < (B110.l.length : Int)) = true := decide_eq_true (by omega)
 have p167 : decide (0 < (B167.l.length : Int)) = true := decide_eq_true (by omega)
 have pP := not_zero hP.1
 have pN := not_nil n2
 have pA := not_f' a2
 have pC := not_f' c2
 have pH := not_zero hch
 have pE := not_zero he.1
 have hP2 : P = 2 ∨ P = 1 := by omega
 obtain rfl | rfl | rfl | rfl | rfl | rfl | rfl | rfl | rfl | rfl | rfl | rfl : K = 1 ∨ K = 2 ∨ K = 3 ∨ K = 4 ∨ K = 5 ∨ K = 6 ∨ K = 7 ∨ K = 8 ∨ K = 9 ∨ K = 10 ∨ K = 11 ∨ K = 12 := by omega
 ·rcases hP2 with rfl | rfl
  ·simp only [Int.reduceEq, ↓reduceIte]
   exact right_of' _ _ [1, 2, 3, 4] (has_of rfl pN pA pC rfl rfl rfl rfl rfl rfl rfl) rfl rfl (kk 1 (by decide)) (pp 2 (by decide)) (.inr n1) a1 c1 (by first | exact Nat.zero_le _ | exact Int.le_refl 0 | exact ee0) (by first | exact Nat.zero_le _ | exact Int.le_refl 0 | exact ee0) (by first | exact Nat.zero_le _ | exact Int.le_refl 0 | exact ee0) (by first | exact Nat.zero_le _ | exact Int.le_refl 0 | exact ee0) (by first | exact Nat.zero_le _ | exact Int.le_refl 0 | exact ee0) (by first | exact Nat.zero_le _ | exact Int.le_refl 0 | exact ee0) (by first | exact Nat.zero_le _ | exact Int.le_refl 0 | exact ee0)
  ·simp only [Int.reduceEq, ↓reduceIte]
   exact right_of' _ _ [1, 2, 3] (has_of rfl pN pA rfl rfl rfl rfl rfl rfl rfl rfl) rfl rfl (kk 1 (by decide)) (pp 1 (by decide)) (.inr n1) a1 rfl (by first | exact Nat.zero_le _ | exact Int.le_refl 0 | exact ee0) (by first | exact Nat.zero_le _ | exact Int.le_refl 0 | exact ee0) (by first | exact Nat.zero_le _ | exact Int.le_refl 0 | exact ee0) (by first | exact Nat.zero_le _ | exact Int.le_refl 0 | exact ee0) (by first | exact Nat.zero_le _ | exact Int.le_refl 0 | exact ee0) (by first | exact Nat.zero_le _ | exact Int.le_refl 0 | exact ee0) (by first | exact Nat.zero_le _ | exact Int.le_refl 0 | exact ee0)
 ·rcases hP2 with rfl | rfl
  ·simp only [Int.reduceEq, ↓reduceIte]
   exact right_of' _ _ [1, 3, 4, 6] (has_of rfl rfl pC pA rfl p48 rfl rfl rfl rfl rfl) rfl rfl (kk 2 (by decide)) (pp 2 (by decide)) (.inl rfl) c1 a1 (by first | exact Nat.zero_le _ | exact Int.le_refl 0 | exact ee0) (show B48.l.length ≤ 48 by omega) (by first | exact Nat.zero_le _ | exact Int.le_refl 0 | exact ee0) (by first | exact Nat.zero_le _ | exact Int.le_refl 0 | exact ee0) (by first | exact Nat.zero_le _ | exact Int.le_refl 0 | exact ee0) (by first | exact Nat.zero_le _ | exact Int.le_refl 0 | exact ee0) (by first | exact Nat.zero_le _ | exact Int.le_refl 0 | exact ee0)
  ·simp only [Int.reduceEq, ↓reduceIte]
   exact right_of' _ _ [1, 4, 5] (has_of rfl rfl rfl pA p16 rfl rfl rfl rfl rfl rfl) rfl rfl (kk 2 (by decide)) (pp 1 (by decide)) (.inl rfl) rfl a1 (show B16.l.length ≤ 16 by omega) (by first | exact Nat.zero_le _ | exact Int.le_refl 0 | exact ee0) (by first | exact Nat.zero_le _ | exact Int.le_refl 0 | exact ee0) (by first | exact Nat.zero_le _ | exact Int.le_refl 0 | exact ee0) (by first | exact Nat.zero_le _ | exact Int.le_refl 0 | exact ee0) (by first | exact Nat.zero_le _ | exact Int.le_refl 0 | exact ee0) (by first | exact Nat.zero_le _ | exact Int.le_refl 0 | exact ee0)
 ·simp only [Int.reduceEq, ↓reduceIte]
  exact right_of' _ _ [7] (has_of rfl rfl rfl rfl rfl rfl p16 rfl rfl rfl rfl) rfl rfl (kk 3 (by decide)) (pp 0 (by decide)) (.inl rfl) rfl rfl (by first | exact Nat.zero_le _ | exact Int.le_refl 0 | exact ee0) (by first | exact Nat.zero_le _ | exact Int.le_refl 0 | exact ee0) (show B16.l.length ≤ 16 by omega) (by first | exact Nat.zero_le _ | exact Int.le_refl 0 | exact ee0) (by first | exact Nat.zero_le _ | exact Int.le_refl 0 | exact ee0) (by first | exact Nat.zero_le _ | exact Int.le_refl 0 | exact ee0) (by first | exact Nat.zero_le _ | exact Int.le_refl 0 | exact ee0)
 ·refine iteP (P := fun m : Msg => m.rightW = true) (fun h => absurd h (by decide)) (fun _ => ?_)
  refine iteP (P := fun m : Msg => m.rightW = true) (fun h => absurd h (by decide)) (fun _ => ?_)
  refine iteP (P := fun m : Msg => m.rightW = true) (fun h => absurd h (by decide)) (fun _ => ?_)
  refine iteP (P := fun m : Msg => m.rightW = true) (fun _ => ?_) (fun h => absurd rfl h)
  refine iteP (P := fun m : Msg => m.rightW = true) (fun _ => ?_) (fun _ => ?_)
  ·simp only [Int.reduceEq, ↓reduceIte]
   exact right_of' _ _ [7, 8] (has_of rfl rfl rfl rfl rfl rfl p167 p80 rfl rfl rfl) (by
    show (if 0 < (B167.l.length : Int) then [7, 8] else [8]) = [7, 8]
    rw [if_pos (by omega)]) rfl (kk 4 (by decide)) (pp 0 (by decide)) (.inl rfl) rfl rfl (by first | exact Nat.zero_le _ | exact Int.le_refl 0 | exact ee0) (by first | exact Nat.zero_le _ | exact Int.le_refl 0 | exact ee0) (show B167.l.length ≤ 16 by omega) (show B80.l.length ≤ 80 by omega) (by first | exact Nat.zero_le _ | exact Int.le_refl 0 | exact ee0) (by first | exact Nat.zero_le _ | exact Int.le_refl 0 | exact ee0) (by first | exact Nat.zero_le _ | exact Int.le_refl 0 | exact ee0)
  ·simp only [Int.reduceEq, ↓reduceIte]
   exact right_of' _ _ [8] (has_of rfl rfl rfl rfl rfl rfl rfl p80 rfl rfl rfl) rfl rfl (kk 4 (by decide)) (pp 0 (by decide)) (.inl rfl) rfl rfl (by first | exact Nat.zero_le _ | exact Int.le_refl 0 | exact ee0) (by first | exact Nat.zero_le _ | exact Int.le_refl 0 | exact ee0) (by first | exact Nat.zero_le _ | exact Int.le_refl 0 | exact ee0) (show B80.l.length ≤ 80 by omega) (by first | exact Nat.zero_le _ | exact Int.le_refl 0 | exact ee0) (by first | exact Nat.zero_le _ | exact Int.le_refl 0 | exact ee0) (by first | exact Nat.zero_le _ | exact Int.le_refl 0 | exact ee0)
 ·simp only [Int.reduceEq, ↓reduceIte]
  exact right_of' _ _ [11] (has_of rfl rfl rfl rfl rfl rfl rfl rfl rfl rfl pE) rfl rfl (kk 5 (by decide)) (pp 0 (by decide)) (.inl rfl) rfl rfl (by first | exact Nat.zero_le _ | exact Int.le_refl 0 | exact ee0) (by first | exact Nat.zero_le _ | exact Int.le_refl 0 | exact ee0) (by first | exact Nat.zero_le _ | exact Int.le_refl 0 | exact ee0) (by first | exact Nat.zero_le _ | exact Int.le_refl 0 | exact ee0) (by first | exact Nat.zero_le _ | exact Int.le_refl 0 | exact ee0) (by first | exact Nat.zero_le _ | exact Int.le_refl 0 | exact ee0) (show 0 ≤ EE ∧ EE ≤ 11 by omega)
 ·simp only [Int.reduceEq, ↓reduceIte]
  exact right_of' _ _ [1, 2, 9] (has_of pP pN rfl rfl rfl rfl rfl rfl p120 rfl rfl) rfl rfl (kk 6 (by decide)) (show 0 ≤ P ∧ P ≤ 2 by omega) (.inr n1) rfl rfl (by first | exact Nat.zero_le _ | exact Int.le_refl 0 | exact ee0) (by first | exact Nat.zero_le _ | exact Int.le_refl 0 | exact ee0) (by first | exact Nat.zero_le _ | exact Int.le_refl 0 | exact ee0) (by first | exact Nat.zero_le _ | exact Int.le_refl 0 | exact ee0) (show B120.l.length ≤ 120 by omega) (by first | exact Nat.zero_le _ | exact Int.le_refl 0 | exact ee0) (by first | exact Nat.zero_le _ | exact Int.le_refl 0 | exact ee0)
 ·simp only [Int.reduceEq, ↓reduceIte]
  exact right_of' _ _ [] (has_of rfl rfl rfl rfl rfl rfl rfl rfl rfl rfl rfl) rfl rfl (kk 7 (by decide)) (pp 0 (by decide)) (.inl rfl) rfl rfl (by first | exact Nat.zero_le _ | exact Int.le_refl 0 | exact ee0) (by first | exact Nat.zero_le _ | exact Int.le_refl 0 | exact ee0) (by first | exact Nat.zero_le _ | exact Int.le_refl 0 | exact ee0) (by first | exact Nat.zero_le _ | exact Int.le_refl 0 | exact ee0) (by first | exact Nat.zero_le _ | exact Int.le_refl 0 | exact ee0) (by first | exact Nat.zero_le _ | exact Int.le_refl 0 | exact ee0) (by first | exact Nat.zero_le _ | exact Int.le_refl 0 | exact ee0)
 ·simp only [Int.reduceEq, ↓reduceIte]
  exact right_of' _ _ [8, 10] (has_of rfl rfl rfl rfl rfl rfl rfl p80 rfl pH rfl) rfl rfl (kk 8 (by decide)) (pp 0 (by decide)) (.inl rfl) rfl rfl (by first | exact Nat.zero_le _ | exact Int.le_refl 0 | exact ee0) (by first | exact Nat.zero_le _ | exact Int.le_refl 0 | exact ee0) (by first | exact Nat.zero_le _ | exact Int.le_refl 0 | exact ee0) (show B80.l.length ≤ 80 by omega) (by first | exact Nat.zero_le _ | exact Int.le_refl 0 | exact ee0) (show 0 ≤ CH by omega) (by first | exact Nat.zero_le _ | exact Int.le_refl 0 | exact ee0)
 ·simp only [Int.reduceEq, ↓reduceIte]
  exact right_of' _ _ [8] (has_of rfl rfl rfl rfl rfl rfl rfl p80 rfl rfl rfl) rfl rfl (kk 9 (by decide)) (pp 0 (by decide)) (.inl rfl) rfl rfl (by first | exact Nat.zero_le _ | exact Int.le_refl 0 | exact ee0) (by first | exact Nat.zero_le _ | exact Int.le_refl 0 | exact ee0) (by first | exact Nat.zero_le _ | exact Int.le_refl 0 | exact ee0) (show B80.l.length ≤ 80 by omega) (by first | exact Nat.zero_le _ | exact Int.le_refl 0 | exact ee0) (by first | exact Nat.zero_le _ | exact Int.le_refl 0 | exact ee0) (by first | exact Nat.zero_le _ | exact Int.le_refl 0 | exact ee0)
 ·simp only [Int.reduceEq, ↓reduceIte]
  exact right_of' _ _ [8] (has_of rfl rfl rfl rfl rfl rfl rfl p80 rfl rfl rfl) rfl rfl (kk 10 (by decide)) (pp 0 (by decide)) (.inl rfl) rfl rfl (by first | exact Nat.zero_le _ | exact Int.le_refl 0 | exact ee0) (by first | exact Nat.zero_le _ | exact Int.le_refl 0 | exact ee0) (by first | exact Nat.zero_le _ | exact Int.le_refl 0 | exact ee0) (show B80.l.length ≤ 80 by omega) (by first | exact Nat.zero_le _ | exact Int.le_refl 0 | exact ee0) (by first | exact Nat.zero_le _ | exact Int.le_refl 0 | exact ee0) (by first | exact Nat.zero_le _ | exact Int.le_refl 0 | exact ee0)
 ·simp only [Int.reduceEq, ↓reduceIte]
  exact right_of' _ _ [1, 8, 9] (has_of pP rfl rfl rfl rfl rfl rfl p80 p110 rfl rfl) rfl rfl (kk 11 (by decide)) (show 0 ≤ P ∧ P ≤ 2 by omega) (.inl rfl) rfl rfl (by first | exact Nat.zero_le _ | exact Int.le_refl 0 | exact ee0) (by first | exact Nat.zero_le _ | exact Int.le_refl 0 | exact ee0) (by first | exact Nat.zero_le _ | exact Int.le_refl 0 | exact ee0) (show B80.l.length ≤ 80 by omega) (show B110.l.length ≤ 120 by omega) (by first | exact Nat.zero_le _ | exact Int.le_refl 0 | exact ee0) (by first | exact Nat.zero_le _ | exact Int.le_refl 0 | exact ee0)
 ·simp only [Int.reduceEq, ↓reduceIte]
  exact right_of' _ _ [8, 10] (has_of rfl rfl rfl rfl rfl rfl rfl p80 rfl pH rfl) rfl rfl (kk 12 (by decide)) (pp 0 (by decide)) (.inl rfl) rfl rfl (by first | exact Nat.zero_le _ | exact Int.le_refl 0 | exact ee0) (by first | exact Nat.zero_le _ | exact Int.le_refl 0 | exact ee0) (by first | exact Nat.zero_le _ | exact Int.le_refl 0 | exact ee0) (show B80.l.length ≤ 80 by omega) (by first | exact Nat.zero_le _ | exact Int.le_refl 0 | exact ee0) (show 0 ≤ CH by omega) (by first | exact Nat.zero_le _ | exact Int.le_refl 0 | exact ee0)
theorem make_chan (kind n : Int) (s : List UInt8) (b : By) : (makeM kind n s b).channel < 9223372036854775808 := by
 have hch : w64 (1 + within1 n 1099511627776) < 9223372036854775808 := by
  have h := within1_in (a := n) (b := 1099511627776) (by omega)
  rw [w64_in (by omega)]; omega
 unfold makeM
 repeat' (refine iteP (P := fun m : Msg => m.channel < 9223372036854775808) (fun _ => ?_) (fun _ => ?_))
 all_goals first | exact hch | (show (0 : Int) < _; omega)
theorem make_name (kind n : Int) (s : List UInt8) (b : By) : (makeM kind n s b).name.length ≤ 1099511627776 := by
 have := (rights (make_right kind n s b)).2.2.2.2.2.2.2.2.2
 omega
set_option maxRecDepth 100000

def Rec.norm (r : Rec) : Rec := { r with salt := r.salt.full, sea := r.sea.full }
theorem rec_same_norm (m n : Rec) : m.same n = true ↔ m.norm = n.norm := by
 unfold Rec.same
 simp only [Bool.and_eq_true, full_eq, decide_eq_true_eq]
 simp only [beq_iff_eq]
 constructor
 ·rintro ⟨h1, h2, h3, h4, h5, h6, h7, h8, h9⟩
  unfold Rec.norm
  rw [h1, h2, h3, h4, h5, h6, h7, h8, h9]
 ·intro h
  have e := fun {α : Type} (f : Rec → α) => congrArg f h
  exact ⟨e Rec.proto, e Rec.name, e Rec.salt, e Rec.v, e Rec.key, e Rec.sea, e Rec.toks, e Rec.at_, e Rec.rev⟩
theorem rec_ok_norm (r : Rec) : r.norm.ok = r.ok := rfl
theorem rec_outL_norm (r : Rec) (e : Int → List UInt8) (f : Num → List UInt8) : r.norm.outL e f = r.outL e f := rfl
theorem rec_ok_same {m n : Rec} (h : m.norm = n.norm) : m.ok = n.ok := by rw [← rec_ok_norm, h, rec_ok_norm]
theorem rec_outW_norm (r : Rec) : r.norm.outW = r.outW := by unfold Rec.outW; rw [rec_ok_norm, rec_outL_norm]
theorem rec_outW_same {m n : Rec} (h : m.norm = n.norm) : m.outW = n.outW := by rw [← rec_outW_norm, h, rec_outW_norm]
theorem rec_out_eq (r : Rec) : r.outW = r.outR := by
 unfold Rec.outW Rec.outR
 cases h : r.ok with
 | false => rfl
 | true =>
   have hk := r.oks h
   have e1 := atB8_from (n := r.at_) (by omega)
   have e2 := atB8_from (n := r.rev) (by omega)
   simp only [Rec.outL, e1, e2, atB4]
theorem rec_bytes {r : Rec} (h : r.ok = true) : r.outW.l = UInt8.ofInt r.proto :: UInt8.ofInt (r.name.length : Int) :: (r.name ++ (UInt8.ofInt (r.salt.l.length : Int) :: (r.salt.l ++ (UInt8.ofInt (r.sea.l.length : Int) :: (r.sea.l ++ (be4 r.v.a0 ++ (be4 r.key.a0 ++ (UInt8.ofInt r.toks :: (atB (Num.from r.at_) 8 ++ atB (Num.from r.rev) 8))))))))) := by
 rw [Rec.outW, h]
 simp [Rec.outL, Rec.w3, Rec.w2, Rec.w1, atB4]
theorem take_app {z bad : Bool} (x t : List UInt8) : (Rd.mk ⟨z, x ++ t⟩ bad).num (x.length : Int) = Num.read x ∧ (Rd.mk ⟨z, x ++ t⟩ bad).next (x.length : Int) = ⟨⟨z, t⟩, bad⟩ := by
 rw [Rd.num, got_le' (by simp), next_le' (by simp)]
 simp
theorem be4_len (w : UInt32) : (be4 w).length = 4 := rfl
theorem take_app4 {z bad : Bool} (w : UInt32) (t : List UInt8) : (Rd.mk ⟨z, be4 w ++ t⟩ bad).num 4 = ⟨w, 0, 0, 0, 0, 0, 0, 0⟩ ∧ (Rd.mk ⟨z, be4 w ++ t⟩ bad).next 4 = ⟨⟨z, t⟩, bad⟩ := by
 have := take_app (z := z) (bad := bad) (be4 w) t
 rw [be4_len, read_be4] at this
 exact this
theorem take_app8 {z bad : Bool} {n : Int} (h : 0 ≤ n ∧ n < 9223372036854775808) (t : List UInt8) : ((Rd.mk ⟨z, atB (Num.from n) 8 ++ t⟩ bad).num 8).i64 = n ∧ (Rd.mk ⟨z, atB (Num.from n) 8 ++ t⟩ bad).next 8 = ⟨⟨z, t⟩, bad⟩ := by
 have := take_app (z := z) (bad := bad) (atB (Num.from n) 8) t
 rw [atB_len _ _ (by omega)] at this
 obtain ⟨h1, h2⟩ := this
 refine ⟨?_, h2⟩
 have h1 : (Rd.mk ⟨z, atB (Num.from n) 8 ++ t⟩ bad).num 8 = _ := h1
 rw [h1, i64_from h]
theorem byteI {n : Int} (h : 0 ≤ n ∧ n ≤ 255) : ((UInt8.ofInt n).toNat : Int) = n := by rw [u8_ofInt]; omega
theorem readW_back (r : Rec) (z : Bool) (h : r.ok = true) (ha : r.at_ < 9223372036854775808) (hr : r.rev < 9223372036854775808) : ∃ d, readW ⟨z, r.outW.l⟩ = some d ∧ d.norm = r.norm := by
 obtain ⟨k1, k2, k3, k4, k5, k6, k7, k8, k9, k10, k11⟩ := r.oks h
 have hn := nameOK_len k3
 have hb := rec_bytes h
 obtain ⟨B, hB⟩ : ∃ B : By, B = ⟨z, (UInt8.ofInt r.proto :: (UInt8.ofInt (r.name.length : Int) :: (r.name ++ (UInt8.ofInt (r.salt.l.length : Int) :: (r.salt.l ++ (UInt8.ofInt (r.sea.l.length : Int) :: (r.sea.l ++ (be4 r.v.a0 ++ (be4 r.key.a0 ++ (UInt8.ofInt r.toks :: (atB (Num.from r.at_) 8 ++ atB (Num.from r.rev) 8)))))))))))⟩ := ⟨_, rfl⟩
 have e0 : rr0 B = ⟨⟨z, (UInt8.ofInt r.proto :: (UInt8.ofInt (r.name.length : Int) :: (r.name ++ (UInt8.ofInt (r.salt.l.length : Int) :: (r.salt.l ++ (UInt8.ofInt (r.sea.l.length : Int) :: (r.sea.l ++ (be4 r.v.a0 ++ (be4 r.key.a0 ++ (UInt8.ofInt r.toks :: (atB (Num.from r.at_) 8 ++ atB (Num.from r.rev) 8)))))))))))⟩, false⟩ := by rw [hB]; rfl
 have n0 := num_one (z := z) (bad := false) (UInt8.ofInt r.proto) (UInt8.ofInt (r.name.length : Int) :: (r.name ++ (UInt8.ofInt (r.salt.l.length : Int) :: (r.salt.l ++ (UInt8.ofInt (r.sea.l.length : Int) :: (r.sea.l ++ (be4 r.v.a0 ++ (be4 r.key.a0 ++ (UInt8.ofInt r.toks :: (atB (Num.from r.at_) 8 ++ atB (Num.from r.rev) 8))))))))))
 have e1 : rr1 B = ⟨⟨z, (UInt8.ofInt (r.name.length : Int) :: (r.name ++ (UInt8.ofInt (r.salt.l.length : Int) :: (r.salt.l ++ (UInt8.ofInt (r.sea.l.length : Int) :: (r.sea.l ++ (be4 r.v.a0 ++ (be4 r.key.a0 ++ (UInt8.ofInt r.toks :: (atB (Num.from r.at_) 8 ++ atB (Num.from r.rev) 8))))))))))⟩, false⟩ := by rw [rr1, e0, next_one]
 obtain ⟨l1, x1⟩ := long_app (z := z) (bad := false) (x := UInt8.ofInt (r.name.length : Int)) (b := r.name) (UInt8.ofInt (r.salt.l.length : Int) :: (r.salt.l ++ (UInt8.ofInt (r.sea.l.length : Int) :: (r.sea.l ++ (be4 r.v.a0 ++ (be4 r.key.a0 ++ (UInt8.ofInt r.toks :: (atB (Num.from r.at_) 8 ++ atB (Num.from r.rev) 8)))))))) (u8_small (by omega))
 have e2 : rr2 B = ⟨⟨z, (UInt8.ofInt (r.salt.l.length : Int) :: (r.salt.l ++ (UInt8.ofInt (r.sea.l.length : Int) :: (r.sea.l ++ (be4 r.v.a0 ++ (be4 r.key.a0 ++ (UInt8.ofInt r.toks :: (atB (Num.from r.at_) 8 ++ atB (Num.from r.rev) 8))))))))⟩, false⟩ := by rw [rr2, e1, x1]
 obtain ⟨l2, x2⟩ := long_app (z := z) (bad := false) (x := UInt8.ofInt (r.salt.l.length : Int)) (b := r.salt.l) (UInt8.ofInt (r.sea.l.length : Int) :: (r.sea.l ++ (be4 r.v.a0 ++ (be4 r.key.a0 ++ (UInt8.ofInt r.toks :: (atB (Num.from r.at_) 8 ++ atB (Num.from r.rev) 8)))))) (u8_small (by omega))
 have e3 : rr3 B = ⟨⟨z, (UInt8.ofInt (r.sea.l.length : Int) :: (r.sea.l ++ (be4 r.v.a0 ++ (be4 r.key.a0 ++ (UInt8.ofInt r.toks :: (atB (Num.from r.at_) 8 ++ atB (Num.from r.rev) 8))))))⟩, false⟩ := by rw [rr3, e2, x2]
 obtain ⟨l3, x3⟩ := long_app (z := z) (bad := false) (x := UInt8.ofInt (r.sea.l.length : Int)) (b := r.sea.l) (be4 r.v.a0 ++ (be4 r.key.a0 ++ (UInt8.ofInt r.toks :: (atB (Num.from r.at_) 8 ++ atB (Num.from r.rev) 8)))) (u8_small (by omega))
 have e4 : rr4 B = ⟨⟨z, (be4 r.v.a0 ++ (be4 r.key.a0 ++ (UInt8.ofInt r.toks :: (atB (Num.from r.at_) 8 ++ atB (Num.from r.rev) 8))))⟩, false⟩ := by rw [rr4, e3, x3]
 obtain ⟨l4, x4⟩ := take_app4 (z := z) (bad := false) r.v.a0 (be4 r.key.a0 ++ (UInt8.ofInt r.toks :: (atB (Num.from r.at_) 8 ++ atB (Num.from r.rev) 8)))
 have e5 : rr5 B = ⟨⟨z, (be4 r.key.a0 ++ (UInt8.ofInt r.toks :: (atB (Num.from r.at_) 8 ++ atB (Num.from r.rev) 8)))⟩, false⟩ := by rw [rr5, e4, x4]
 obtain ⟨l5, x5⟩ := take_app4 (z := z) (bad := false) r.key.a0 (UInt8.ofInt r.toks :: (atB (Num.from r.at_) 8 ++ atB (Num.from r.rev) 8))
 have e6 : rr6 B = ⟨⟨z, (UInt8.ofInt r.toks :: (atB (Num.from r.at_) 8 ++ atB (Num.from r.rev) 8))⟩, false⟩ := by rw [rr6, e5, x5]
 have l6 := num_one (z := z) (bad := false) (UInt8.ofInt r.toks) (atB (Num.from r.at_) 8 ++ atB (Num.from r.rev) 8)
 have e7 : rr7 B = ⟨⟨z, (atB (Num.from r.at_) 8 ++ atB (Num.from r.rev) 8)⟩, false⟩ := by rw [rr7, e6, next_one]
 obtain ⟨l7, x7⟩ := take_app8 (z := z) (bad := false) ⟨k10, ha⟩ (atB (Num.from r.rev) 8)
 have e8 : rr8 B = ⟨⟨z, atB (Num.from r.rev) 8⟩, false⟩ := by rw [rr8, e7, x7]
 obtain ⟨l8, x8⟩ := take_app8 (z := z) (bad := false) ⟨k11, hr⟩ []
 rw [List.append_nil] at l8 x8
 have e9 : rr9 B = ⟨⟨z, []⟩, false⟩ := by rw [rr9, e8, x8]
 have er : recW B = ⟨r.proto, r.name, ⟨z, r.salt.l⟩, r.v, r.key, ⟨z, r.sea.l⟩, r.toks, r.at_, r.rev⟩ := by
  rw [recW, e0, e1, e2, e3, e4, e5, e6, e7, e8, l1, l2, l3, l4, l5, l6, l7, l8, n0, byteI (by omega), byteI (by omega), low_eq k6, low_eq k7]
 have hs : (recW B).norm = r.norm := by rw [er]; rfl
 have hBl : (⟨z, r.outW.l⟩ : By) = B := by rw [hB, hb]
 rw [hBl]
 refine ⟨_, ?_, hs⟩
 rw [readW, rec_ok_same hs, rec_outW_same hs, e9, h, ← hBl]
 simp
theorem gotR_app {z bad : Bool} (x t : List UInt8) : (Rd.mk ⟨z, x ++ t⟩ bad).gotR (x.length : Int) = ⟨false, x⟩ ∧ (Rd.mk ⟨z, x ++ t⟩ bad).nextR (x.length : Int) = ⟨⟨z, t⟩, bad⟩ := by
 unfold Rd.gotR Rd.nextR
 rw [decide_eq_false (show ¬ (((x ++ t).length : Nat) : Int) < (x.length : Int) by simp; omega)]
 simp
theorem gotR_one {z bad : Bool} (x : UInt8) (t : List UInt8) : (Rd.mk ⟨z, x :: t⟩ bad).gotR 1 = ⟨false, [x]⟩ ∧ (Rd.mk ⟨z, x :: t⟩ bad).nextR 1 = ⟨⟨z, t⟩, bad⟩ := gotR_app (z := z) (bad := bad) [x] t
theorem gotR_4 {z bad : Bool} (w : UInt32) (t : List UInt8) : (Rd.mk ⟨z, be4 w ++ t⟩ bad).gotR 4 = ⟨false, be4 w⟩ ∧ (Rd.mk ⟨z, be4 w ++ t⟩ bad).nextR 4 = ⟨⟨z, t⟩, bad⟩ := gotR_app (z := z) (bad := bad) (be4 w) t
theorem gotR_8 {z bad : Bool} (n : Int) (t : List UInt8) : (Rd.mk ⟨z, eightTo n 8 ++ t⟩ bad).gotR 8 = ⟨false, eightTo n 8⟩ ∧ (Rd.mk ⟨z, eightTo n 8 ++ t⟩ bad).nextR 8 = ⟨⟨z, t⟩, bad⟩ := by
 have := gotR_app (z := z) (bad := bad) (eightTo n 8) t
 rw [eightTo_len] at this
 exact this
theorem longR_app {z bad : Bool} {x : UInt8} {b : List UInt8} (l : List UInt8) (h : x.toNat = b.length) : (Rd.mk ⟨z, x :: (b ++ l)⟩ bad).longR = ⟨false, b⟩ ∧ (Rd.mk ⟨z, x :: (b ++ l)⟩ bad).nextLR = ⟨⟨z, l⟩, bad⟩ := by
 obtain ⟨h1, h2⟩ := gotR_one (z := z) (bad := bad) x (b ++ l)
 rw [Rd.longR, Rd.nextLR, h1, h2, numR_byte, h]
 exact gotR_app b l
theorem readR_back (r : Rec) (z : Bool) (h : r.ok = true) (ha : r.at_ < 9223372036854775808) (hr : r.rev < 9223372036854775808) : ∃ d, readR ⟨z, r.outW.l⟩ = some d ∧ d.norm = r.norm := by
 obtain ⟨k1, k2, k3, k4, k5, k6, k7, k8, k9, k10, k11⟩ := r.oks h
 have hn := nameOK_len k3
 have hb := rec_bytes h
 rw [atB8_from k10, atB8_from k11] at hb
 obtain ⟨B, hB⟩ : ∃ B : By, B = ⟨z, (UInt8.ofInt r.proto :: (UInt8.ofInt (r.name.length : Int) :: (r.name ++ (UInt8.ofInt (r.salt.l.length : Int) :: (r.salt.l ++ (UInt8.ofInt (r.sea.l.length : Int) :: (r.sea.l ++ (be4 r.v.a0 ++ (be4 r.key.a0 ++ (UInt8.ofInt r.toks :: (eightTo r.at_ 8 ++ eightTo r.rev 8)))))))))))⟩ := ⟨_, rfl⟩
 have e0 : ss0 B = ⟨⟨z, (UInt8.ofInt r.proto :: (UInt8.ofInt (r.name.length : Int) :: (r.name ++ (UInt8.ofInt (r.salt.l.length : Int) :: (r.salt.l ++ (UInt8.ofInt (r.sea.l.length : Int) :: (r.sea.l ++ (be4 r.v.a0 ++ (be4 r.key.a0 ++ (UInt8.ofInt r.toks :: (eightTo r.at_ 8 ++ eightTo r.rev 8)))))))))))⟩, false⟩ := by rw [hB]; rfl
 obtain ⟨n0, x0⟩ := gotR_one (z := z) (bad := false) (UInt8.ofInt r.proto) (UInt8.ofInt (r.name.length : Int) :: (r.name ++ (UInt8.ofInt (r.salt.l.length : Int) :: (r.salt.l ++ (UInt8.ofInt (r.sea.l.length : Int) :: (r.sea.l ++ (be4 r.v.a0 ++ (be4 r.key.a0 ++ (UInt8.ofInt r.toks :: (eightTo r.at_ 8 ++ eightTo r.rev 8))))))))))
 have e1 : ss1 B = ⟨⟨z, (UInt8.ofInt (r.name.length : Int) :: (r.name ++ (UInt8.ofInt (r.salt.l.length : Int) :: (r.salt.l ++ (UInt8.ofInt (r.sea.l.length : Int) :: (r.sea.l ++ (be4 r.v.a0 ++ (be4 r.key.a0 ++ (UInt8.ofInt r.toks :: (eightTo r.at_ 8 ++ eightTo r.rev 8))))))))))⟩, false⟩ := by rw [← ss1_eq, e0, x0]
 obtain ⟨l1, x1⟩ := longR_app (z := z) (bad := false) (x := UInt8.ofInt (r.name.length : Int)) (b := r.name) (UInt8.ofInt (r.salt.l.length : Int) :: (r.salt.l ++ (UInt8.ofInt (r.sea.l.length : Int) :: (r.sea.l ++ (be4 r.v.a0 ++ (be4 r.key.a0 ++ (UInt8.ofInt r.toks :: (eightTo r.at_ 8 ++ eightTo r.rev 8)))))))) (u8_small (by omega))
 have e2 : ss2 B = ⟨⟨z, (UInt8.ofInt (r.salt.l.length : Int) :: (r.salt.l ++ (UInt8.ofInt (r.sea.l.length : Int) :: (r.sea.l ++ (be4 r.v.a0 ++ (be4 r.key.a0 ++ (UInt8.ofInt r.toks :: (eightTo r.at_ 8 ++ eightTo r.rev 8))))))))⟩, false⟩ := by rw [← ss2_eq, e1, x1]
 obtain ⟨l2, x2⟩ := longR_app (z := z) (bad := false) (x := UInt8.ofInt (r.salt.l.length : Int)) (b := r.salt.l) (UInt8.ofInt (r.sea.l.length : Int) :: (r.sea.l ++ (be4 r.v.a0 ++ (be4 r.key.a0 ++ (UInt8.ofInt r.toks :: (eightTo r.at_ 8 ++ eightTo r.rev 8)))))) (u8_small (by omega))
 have e3 : ss3 B = ⟨⟨z, (UInt8.ofInt (r.sea.l.length : Int) :: (r.sea.l ++ (be4 r.v.a0 ++ (be4 r.key.a0 ++ (UInt8.ofInt r.toks :: (eightTo r.at_ 8 ++ eightTo r.rev 8))))))⟩, false⟩ := by rw [← ss3_eq, e2, x2]
 obtain ⟨l3, x3⟩ := longR_app (z := z) (bad := false) (x := UInt8.ofInt (r.sea.l.length : Int)) (b := r.sea.l) (be4 r.v.a0 ++ (be4 r.key.a0 ++ (UInt8.ofInt r.toks :: (eightTo r.at_ 8 ++ eightTo r.rev 8)))) (u8_small (by omega))
 have e4 : ss4 B = ⟨⟨z, (be4 r.v.a0 ++ (be4 r.key.a0 ++ (UInt8.ofInt r.toks :: (eightTo r.at_ 8 ++ eightTo r.rev 8))))⟩, false⟩ := by rw [← ss4_eq, e3, x3]
 obtain ⟨l4, x4⟩ := gotR_4 (z := z) (bad := false) r.v.a0 (be4 r.key.a0 ++ (UInt8.ofInt r.toks :: (eightTo r.at_ 8 ++ eightTo r.rev 8)))
 have e5 : ss5 B = ⟨⟨z, (be4 r.key.a0 ++ (UInt8.ofInt r.toks :: (eightTo r.at_ 8 ++ eightTo r.rev 8)))⟩, false⟩ := by rw [← ss5_eq, e4, x4]
 obtain ⟨l5, x5⟩ := gotR_4 (z := z) (bad := false) r.key.a0 (UInt8.ofInt r.toks :: (eightTo r.at_ 8 ++ eightTo r.rev 8))
 have e6 : ss6 B = ⟨⟨z, (UInt8.ofInt r.toks :: (eightTo r.at_ 8 ++ eightTo r.rev 8))⟩, false⟩ := by rw [← ss6_eq, e5, x5]
 obtain ⟨l6, x6⟩ := gotR_one (z := z) (bad := false) (UInt8.ofInt r.toks) (eightTo r.at_ 8 ++ eightTo r.rev 8)
 have e7 : ss7 B = ⟨⟨z, (eightTo r.at_ 8 ++ eightTo r.rev 8)⟩, false⟩ := by rw [← ss7_eq, e6, x6]
 obtain ⟨l7, x7⟩ := gotR_8 (z := z) (bad := false) r.at_ (eightTo r.rev 8)
 have e8 : ss8 B = ⟨⟨z, eightTo r.rev 8⟩, false⟩ := by rw [← ss8_eq, e7, x7]
 obtain ⟨l8, x8⟩ := gotR_8 (z := z) (bad := false) r.rev []
 rw [List.append_nil] at l8 x8
 have e9 : ss9 B = ⟨⟨z, []⟩, false⟩ := by rw [← ss9_eq, e8, x8]
 have er : recR B = ⟨r.proto, r.name, ⟨false, r.salt.l⟩, r.v, r.key, ⟨false, r.sea.l⟩, r.toks, r.at_, r.rev⟩ := by
  rw [← recR_eq, e0, e1, e2, e3, e4, e5, e6, e7, e8, n0, l1, l2, l3, l4, l5, l6, l7, l8]
  dsimp only
  rw [numR_byte, numR_byte, numR_eight ⟨k10, ha⟩, numR_eight ⟨k11, hr⟩, read_be4, read_be4, low_eq k6, low_eq k7, byteI (by omega), byteI (by omega)]
 have hs : (recR B).norm = r.norm := by rw [er]; rfl
 have hBl : (⟨z, r.outW.l⟩ : By) = B := by rw [hB, hb]
 rw [hBl]
 refine ⟨_, ?_, hs⟩
 have h2 : (recR B).outR.l = B.l := by rw [← rec_out_eq, rec_outW_same hs, ← hBl]
 have h3 : (recR B).ok = true := by rw [rec_ok_same hs, h]
 have h4 : (ss9 B).bad = false := by rw [e9]
 rw [readR_eq, h3, h4, h2]
 simp [pickR]
theorem readW_some {b : By} {m : Rec} (h : readW b = some m) : m.ok = true ∧ m.outW.l = b.l ∧ m.at_ < 9223372036854775808 ∧ m.rev < 9223372036854775808 := by
 unfold readW at h
 split at h
 ·rename_i hb
  cases h
  simp only [Bool.and_eq_true, beq_iff_eq] at hb
  exact ⟨hb.1, hb.2.2, i64_lt _, i64_lt _⟩
 ·cases h
theorem pickR_some {p : Bool} {r m : Rec} (h : pickR p r = some m) : p = true ∧ r = m := by
 cases p with
 | true => rw [pickR] at h; cases h; exact ⟨rfl, rfl⟩
 | false => rw [pickR] at h; cases h
theorem at_of_mk {p : Int} {s : List UInt8} {x : By} {v k : Num} {y : By} {t c f : Int} {r : Rec} (h : Rec.mk p s x v k y t c f = r) : r.at_ = c ∧ r.rev = f := by subst h; exact ⟨rfl, rfl⟩
theorem recR_at (b : By) : (recR b).at_ < 9223372036854775808 := by
 have := (at_of_mk (recR_eq b)).1
 rw [this]; exact numR_lt _
theorem recR_rev (b : By) : (recR b).rev < 9223372036854775808 := by
 have := (at_of_mk (recR_eq b)).2
 rw [this]; exact numR_lt _
theorem readR_some {b : By} {m : Rec} (h : readR b = some m) : m.ok = true ∧ m.outW.l = b.l ∧ m.at_ < 9223372036854775808 ∧ m.rev < 9223372036854775808 := by
 rw [readR_eq] at h
 obtain ⟨hb, hm⟩ := pickR_some h
 simp only [Bool.and_eq_true, beq_iff_eq] at hb
 have h1 : (recR b).at_ < 9223372036854775808 := recR_at b
 have h2 : (recR b).rev < 9223372036854775808 := recR_rev b
 generalize (ss9 b).bad = bd at hb
 generalize recR b = q at *
 subst hm
 exact ⟨hb.2.1, by rw [rec_out_eq]; exact hb.2.2, h1, h2⟩
theorem read_agree (l : List UInt8) (z z' : Bool) : (readW ⟨z, l⟩).isSome = (readR ⟨z', l⟩).isSome ∧ (orZR (readW ⟨z, l⟩)).norm = (orZR (readR ⟨z', l⟩)).norm := by
 cases hw : readW ⟨z, l⟩ with
 | some m =>
   obtain ⟨h1, h2, h3, h4⟩ := readW_some hw
   obtain ⟨d, e1, e2⟩ := readR_back m z' h1 h3 h4
   rw [show m.outW.l = l from h2] at e1
   rw [e1]; exact ⟨rfl, e2.symm⟩
 | none =>
   cases hr : readR ⟨z', l⟩ with
   | none => exact ⟨rfl, rfl⟩
   | some m =>
     obtain ⟨h1, h2, h3, h4⟩ := readR_some hr
     obtain ⟨d, e1, e2⟩ := readW_back m z h1 h3 h4
     rw [show m.outW.l = l from h2] at e1
     rw [hw] at e1; cases e1
theorem read_same (b : By) : (orZR (readW b)).same (orZR (readR b)) = true := (rec_same_norm _ _).2 (read_agree b.l b.nil b.nil).2
theorem rec_inj {m n : Rec} (hm : m.ok = true) (hn : n.ok = true) (cm : m.at_ < 9223372036854775808 ∧ m.rev < 9223372036854775808) (cn : n.at_ < 9223372036854775808 ∧ n.rev < 9223372036854775808) : (m.outW.l == n.outW.l) = m.same n := by
 rw [Bool.eq_iff_iff, beq_iff_eq, rec_same_norm]
 constructor
 ·intro h
  obtain ⟨d, e1, e2⟩ := readW_back m false hm cm.1 cm.2
  obtain ⟨d', e3, e4⟩ := readW_back n false hn cn.1 cn.2
  rw [h] at e1
  rw [e1] at e3
  cases e3
  exact e2.symm.trans e4
 ·intro h; rw [rec_outW_same h]
theorem from_low0 {n : Int} (h : 0 ≤ n ∧ n < 4294967296) : (Num.from n).low = true := by
 by_cases h0 : n = 0
 ·subst h0; rfl
 ·exact (from_low (by omega)).1
theorem rec_right (n : Int) (s : List UInt8) (b : By) : (recM n s b).ok = true ∧ (recM n s b).at_ < 9223372036854775808 ∧ (recM n s b).rev < 9223372036854775808 := by
 have hP := mkP_in n
 have hv := within1_in (a := w64 (n.tdiv 2)) (b := 4294967296) (by omega)
 have hk := within1_in (a := w64 (n.tdiv 7)) (b := 4294967296) (by omega)
 have ht := within1_in (a := w64 (n.tdiv 11)) (b := 6) (by omega)
 have ha := within1_in (a := w64 (n.tdiv 13)) (b := 1000) (by omega)
 have hr := within1_in (a := w64 (n.tdiv 17)) (b := 1099511627776) (by omega)
 obtain ⟨_, _, p3, p4⟩ := cut_in n b.l 16 (by omega)
 obtain ⟨_, _, q3, q4⟩ := cut_in (w64 (n.tdiv 3)) b.l 48 (by omega)
 have l1 : (cutB n b.l 16).l.length ≤ 16 := by simp only [cutB, List.length_take]; omega
 have l2 : (cutB (w64 (n.tdiv 3)) b.l 48).l.length ≤ 48 := by simp only [cutB, List.length_take]; omega
 have hn := (nameL_ok s).1
 unfold recM
 refine ⟨?_, by simp only; omega, by simp only; omega⟩
 simp only [Rec.ok, Bool.and_eq_true, decide_eq_true_eq]
 unfold mkP at hP
 exact ⟨by omega, by omega, hn, l1, l2, from_low0 hv, from_low0 hk, by omega, by omega, by omega, by omega⟩
end Go.Abs
