/-
  Own work. Conditions: none. The walk of the law WireRows: the pieces. The walk of the law WireRows: the loops, joined.
-/
import Derived.Test.YtmgefdndbcgoiaaWireD
import Derived.Test.YtmgefdndbcgoiaaRows
set_option linter.unusedVariables false
set_option linter.unusedSimpArgs false
set_option linter.unnecessarySimpa false
namespace Go.Abs
open Go.Proofs
set_option maxRecDepth 100000

def o10_87 : List CO := [⟨(some 87), (.call (.c (.fn 21 [])) [(.t 82), (.t 86)]), (some (81, false)), 0⟩, ⟨(some 88), (.un .not (.t 87)), (some (81, false)), 0⟩, ⟨(some 89), (.pick (.t 81) (.c (.bool true)) (.t 88)), none, 0⟩]
def q10 : CC := (.cond (.t 89) (.seq (.reg [⟨(some 8), (.mov (.c (.bool false))), none, 2⟩] []) .ret) .skip)
def t10_79 : CC := (.seq (.reg (⟨(some 79), (.mov (.t 17)), none, 0⟩ :: ⟨(some 80), (.un .not (.t 79)), none, 0⟩ :: ⟨(some 81), (.mov (.t 80)), none, 0⟩ :: ⟨(some 82), (.load (some 26) (.t 16)), (some (81, false)), 1⟩ :: ⟨(some 83), (.mov (.t 10)), (some (81, false)), 0⟩ :: ⟨(some 84), (.mov (.t 15)), (some (81, false)), 0⟩ :: ⟨(some 85), (.iadS 26 (.t 83) (.t 84)), (some (81, false)), 0⟩ :: ⟨(some 86), (.load (some 26) (.t 85)), (some (81, false)), 1⟩ :: o10_87) []) q10)
def q10_72 : CC := (.reg [⟨(some 72), (.mov (.t 15)), none, 2⟩, ⟨(some 73), (.bin .add (.t 72) (.c (.int 1))), none, 2⟩, ⟨(some 15), (.mov (.t 73)), none, 2⟩] [])
def q10_41 : CC := (.reg [⟨(some 41), (.mov (.t 11)), none, 2⟩, ⟨(some 42), (.bin .add (.t 41) (.c (.int 1))), none, 2⟩, ⟨(some 11), (.mov (.t 42)), none, 2⟩] [])
def t10_91 : CC := (.seq (.reg [⟨(some 91), (.mov (.t 9)), none, 2⟩, ⟨(some 92), (.call (.c (.fn 30 [])) [(.t 91)]), none, 2⟩, ⟨(some 90), (.mov (.t 92)), none, 2⟩, ⟨(some 93), (.ext (.t 90) 0), none, 2⟩, ⟨(some 94), (.ext (.t 90) 1), none, 2⟩, ⟨(some 18), (.alloc (.agg [(.int 0), (.int 0), (.int 0), (.int 0), (.str []), (.u32 0), (.u32 0), (.u32 0), (.u32 0), (.u32 0), (.u32 0), (.u32 0), (.u32 0), (.u32 0), (.u32 0), (.u32 0), (.u32 0), (.u32 0), (.u32 0), (.u32 0), (.u32 0), (.sl true 0 0 (.agg []) true), (.sl true 0 0 (.agg []) true), (.sl true 0 0 (.agg []) true), (.sl true 0 0 (.agg []) true), (.sl true 0 0 (.agg []) true)])), none, 2⟩, ⟨none, (.store (some 26) (.t 18) (.t 93)), none, 2⟩, ⟨(some 19), (.mov (.t 94)), none, 2⟩] []) (.seq (.reg [⟨(some 95), (.mov (.t 19)), none, 2⟩, ⟨(some 96), (.un .not (.t 95)), none, 2⟩, ⟨(some 97), (.mov (.t 96)), none, 2⟩, ⟨(some 98), (.mov (.t 9)), (some (97, true)), 2⟩, ⟨(some 99), (.call (.c (.fn 32 [])) [(.t 98)]), (some (97, true)), 2⟩, ⟨(some 100), (.un .not (.t 99)), (some (97, true)), 2⟩, ⟨(some 101), (.pick (.t 97) (.t 100) (.c (.bool false))), none, 2⟩, ⟨(some 8), (.mov (.t 101)), none, 2⟩] []) .ret))
def t10_68 : CC := (.block 2 (.loop (.seq (.seq (.reg [⟨(some 68), (.mov (.t 15)), none, 2⟩, ⟨(some 69), (.mov (.t 10)), none, 2⟩, ⟨(some 70), (.len false (.t 69)), none, 2⟩, ⟨(some 71), (.bin .lss (.t 68) (.t 70)), none, 2⟩] []) (.cond (.t 71) .skip (.exit 2))) (.seq (.block 3 (.seq (.reg [⟨(some 75), (.mov (.t 9)), none, 2⟩, ⟨(some 76), (.call (.c (.fn 30 [])) [(.t 75)]), none, 2⟩, ⟨(some 74), (.mov (.t 76)), none, 2⟩, ⟨(some 77), (.ext (.t 74) 0), none, 2⟩, ⟨(some 78), (.ext (.t 74) 1), none, 2⟩, ⟨(some 16), (.alloc (.agg [(.int 0), (.int 0), (.int 0), (.int 0), (.str []), (.u32 0), (.u32 0), (.u32 0), (.u32 0), (.u32 0), (.u32 0), (.u32 0), (.u32 0), (.u32 0), (.u32 0), (.u32 0), (.u32 0), (.u32 0), (.u32 0), (.u32 0), (.u32 0), (.sl true 0 0 (.agg []) true), (.sl true 0 0 (.agg []) true), (.sl true 0 0 (.agg []) true), (.sl true 0 0 (.agg []) true), (.sl true 0 0 (.agg []) true)])), none, 2⟩, ⟨none, (.store (some 26) (.t 16) (.t 77)), none, 2⟩, ⟨(some 17), (.mov (.t 78)), none, 2⟩] []) t10_79)) q10_72))))
def t10_60 : CC := (.seq (.reg [⟨(some 60), (.mov (.t 10)), none, 2⟩, ⟨(some 61), (.load (some 26) (.t 12)), none, 2⟩, ⟨(some 62), (.bsl false .other 26 1 [(.int 0), (.int 0), (.int 0), (.int 0), (.str []), (.u32 0), (.u32 0), (.u32 0), (.u32 0), (.u32 0), (.u32 0), (.u32 0), (.u32 0), (.u32 0), (.u32 0), (.u32 0), (.u32 0), (.u32 0), (.u32 0), (.u32 0), (.u32 0), (.sl true 0 0 (.agg []) true), (.sl true 0 0 (.agg []) true), (.sl true 0 0 (.agg []) true), (.sl true 0 0 (.agg []) true), (.sl true 0 0 (.agg []) true)] [(0, (26, (.t 61)))]), none, 2⟩, ⟨(some 63), (.app true 26 232 (.t 60) (.t 62)), none, 2⟩, ⟨(some 10), (.mov (.t 63)), none, 2⟩] []) (.seq (.reg [⟨(some 64), (.mov (.t 9)), none, 2⟩, ⟨(some 65), (.mov (.t 13)), none, 2⟩, ⟨(some 66), (.call (.c (.fn 28 [])) [(.t 64), (.t 65)]), none, 2⟩, ⟨(some 67), (.un .not (.t 66)), none, 2⟩] []) (.cond (.t 67) (.seq (.reg [⟨(some 8), (.mov (.c (.bool false))), none, 2⟩] []) .ret) .skip)))
def t10_33 : CC := (.block 0 (.loop (.seq (.seq (.reg [⟨(some 33), (.mov (.t 11)), none, 2⟩, ⟨(some 34), (.mov (.t 0)), none, 2⟩, ⟨(some 35), (.len false (.t 34)), none, 2⟩, ⟨(some 36), (.bin .lss (.t 33) (.t 35)), none, 2⟩, ⟨(some 37), (.mov (.t 36)), none, 2⟩, ⟨(some 38), (.mov (.t 11)), (some (37, true)), 2⟩, ⟨(some 39), (.bin .lss (.t 38) (.c (.int 12))), (some (37, true)), 2⟩, ⟨(some 40), (.pick (.t 37) (.t 39) (.c (.bool false))), none, 2⟩] []) (.cond (.t 40) .skip (.exit 0))) (.seq (.block 1 (.seq (.reg [⟨(some 43), (.mov (.t 0)), none, 2⟩, ⟨(some 44), (.mov (.t 11)), none, 2⟩, ⟨(some 45), (.iadS 1 (.t 43) (.t 44)), none, 2⟩, ⟨(some 46), (.load none (.t 45)), none, 2⟩, ⟨(some 47), (.mov (.t 1)), none, 2⟩, ⟨(some 48), (.mov (.t 11)), none, 2⟩, ⟨(some 49), (.bin .add (.t 47) (.t 48)), none, 2⟩, ⟨(some 50), (.mov (.t 2)), none, 2⟩, ⟨(some 51), (.mov (.t 3)), none, 2⟩, ⟨(some 52), (.call (.c (.fn 16 [])) [(.t 46), (.t 49), (.t 50), (.t 51)]), none, 2⟩, ⟨(some 12), (.alloc (.agg [(.int 0), (.int 0), (.int 0), (.int 0), (.str []), (.u32 0), (.u32 0), (.u32 0), (.u32 0), (.u32 0), (.u32 0), (.u32 0), (.u32 0), (.u32 0), (.u32 0), (.u32 0), (.u32 0), (.u32 0), (.u32 0), (.u32 0), (.u32 0), (.sl true 0 0 (.agg []) true), (.sl true 0 0 (.agg []) true), (.sl true 0 0 (.agg []) true), (.sl true 0 0 (.agg []) true), (.sl true 0 0 (.agg []) true)])), none, 2⟩, ⟨none, (.store (some 26) (.t 12) (.t 52)), none, 2⟩] []) (.seq (.reg [⟨(some 54), (.load (some 26) (.t 12)), none, 2⟩, ⟨(some 55), (.call (.c (.fn 18 [])) [(.t 54)]), none, 2⟩, ⟨(some 53), (.mov (.t 55)), none, 2⟩, ⟨(some 56), (.ext (.t 53) 0), none, 2⟩, ⟨(some 57), (.ext (.t 53) 1), none, 2⟩, ⟨(some 13), (.mov (.t 56)), none, 2⟩, ⟨(some 14), (.mov (.t 57)), none, 2⟩] []) (.seq (.seq (.reg [⟨(some 58), (.mov (.t 14)), none, 2⟩, ⟨(some 59), (.un .not (.t 58)), none, 2⟩] []) (.cond (.t 59) (.exit 1) .skip)) t10_60)))) q10_41))))
def t10_15 : CC := (.seq (.seq (.reg [⟨(some 15), (.mov (.c (.int 0))), none, 2⟩] []) t10_68) t10_91)
def c10_ : CC := (.seq (.reg [⟨(some 8), (.mov (.c (.bool false))), none, 2⟩] []) (.seq (.seq (.reg [⟨(some 20), (.call (.c (.fn 15 [])) []), none, 2⟩, ⟨(some 21), (.un .not (.t 20)), none, 2⟩] []) (.cond (.t 21) (.seq (.reg [⟨(some 8), (.mov (.c (.bool false))), none, 2⟩] []) .ret) .skip)) (.seq (.seq (.reg [⟨(some 22), (.mov (.t 2)), none, 2⟩, ⟨(some 23), (.len true (.t 22)), none, 2⟩, ⟨(some 24), (.bin .gtr (.t 23) (.c (.int 40))), none, 2⟩, ⟨(some 25), (.mov (.t 24)), none, 2⟩, ⟨(some 26), (.mov (.t 3)), (some (25, false)), 2⟩, ⟨(some 27), (.len false (.t 26)), (some (25, false)), 2⟩, ⟨(some 28), (.bin .gtr (.t 27) (.c (.int 100))), (some (25, false)), 2⟩, ⟨(some 29), (.pick (.t 25) (.c (.bool true)) (.t 28)), none, 2⟩] []) (.cond (.t 29) (.seq (.reg [⟨(some 8), (.mov (.c (.bool true))), none, 2⟩] []) .ret) .skip)) (.seq (.reg [⟨(some 30), (.call (.c (.fn 26 [])) []), none, 2⟩, ⟨(some 9), (.mov (.t 30)), none, 2⟩] []) (.seq (.seq (.reg [⟨(some 31), (.mov (.t 9)), none, 2⟩, ⟨(some 32), (.eq false .ptr (.t 31) (.c .nilp)), none, 2⟩] []) (.cond (.t 32) (.seq (.reg [⟨(some 8), (.mov (.c (.bool false))), none, 2⟩] []) .ret) .skip)) (.seq (.reg [⟨(some 10), (.mov (.c (.sl true 0 0 (.agg []) true))), none, 2⟩] []) (.seq (.seq (.reg [⟨(some 11), (.mov (.c (.int 0))), none, 2⟩] []) t10_33) t10_15)))))))
theorem c10_eq : c10 = c10_ := by kernel_rfl
-- missing ['61']

def e16m (M : Int → Int → List UInt8 → By → Msg) : SpE := ⟨true, ev4 intD intD strD byD (fun _ _ s b => some (s.length ≤ 1099511627776 ∧ b.l.length ≤ 1099511627776)) fun k n s b => .agg (M k n s b).C⟩
def e18o (O : Msg → By) : SpE := ⟨true, ev1 msgD (fun m => some (m.name.length ≤ 1099511627776 ∧ m.isR = true)) fun m => .tup [(O m).A, .bool true]⟩
theorem ok18o : SpE.ok Try.prog 18 (e18o Msg.outR) := ev1_ok kMsg (fun _ => rfl) (fun m h => by have := fn18 m h.1; rw [h.2] at this; exact this)
theorem outR_len (m : Msg) : (m.outR).l.length ≤ 202 := by
  rw [← out_eq]
  cases h : m.isW with
  | true => have := (out_size m h [] true 0).2.2; exact this
  | false => rw [Msg.outW, h]; exact Nat.zero_le _
def flatC : List Msg → List AV
  | [] => []
  | m :: r => lapp m.C (flatC r)
def bytesL (O : Msg → By) : List Msg → List UInt8
  | [] => []
  | m :: r => (O m).l ++ bytesL O r
def msL (M : Int → Int → List UInt8 → By → Msg) (kinds : Ints) (n : Int) (s : List UInt8) (b : By) : Nat → List Msg
  | 0 => []
  | i + 1 => msL M kinds n s b i ++ [M ([kinds.l.getD i 0].getD 0 0) (w64 (n + (i : Int))) s b]
def n10 : AV → Nat
  | .ms _ _ _ _ n _ => n
  | _ => 0
def orS : Option Sw → Sw | some s => s | none => Sw.new
def p10 : List AO → Sw
  | ⟨_, c, _⟩ :: _ => orS (swD c)
  | _ => Sw.new
def h10 (p : Sw) : List AO → List AO
  | _ :: r => ⟨0, p.A, false⟩ :: r
  | l => l
/-- What was written so far. -/
def Wrote (O : Msg → By) (p : Sw) (ms : List Msg) : Prop := p.b.l = bytesL O ms ∧ p.bad = false ∧ 0 ≤ p.n ∧ p.n ≤ 202 * (ms.length : Int)
def L10a (M : Int → Int → List UInt8 → By → Msg) (O : Msg → By) (kinds : Ints) (n : Int) (s : List UInt8) (b : By) : LI where
  X := Nat × Sw × Msg
  x0 := (0, Sw.new, Msg.zero)
  pre p := p.1 + 1 ≤ 12 ∧ Wrote O p.2.1 (msL M kinds n s b (p.1 + 1))
  inv p := ([(0, kinds.A), (1, .int n), (2, .str s), (3, b.A), (9, .ptr 0 0 0), (10, .ms false 2 0 0 (p.1 + 1) 26), (11, .int (p.1 + 1 : Nat))], [⟨0, p.2.1.A, false⟩, ⟨0, .agg p.2.2.C, false⟩, ⟨0, .agg (flatC (msL M kinds n s b (p.1 + 1))), false⟩])
  mu p := 12 - p.1
  ren := true
  peel := true
def L10b (M : Int → Int → List UInt8 → By → Msg) (O : Msg → By) (kinds : Ints) (n : Int) (s : List UInt8) (b : By) (s' : SL) (h' : List AO) : LI where
  X := Nat
  x0 := 0
  pre j := j ≤ n10 (look s' 10)
  inv j := ([(9, look s' 9), (10, look s' 10), (15, .int j)], h10 ⟨⟨(p10 h').b.nil, bytesL O ((msL M kinds n s b (n10 (look s' 10))).drop j)⟩, (p10 h').n, false⟩ h')
  mu j := n10 (look s' 10) - j
  ren := false
def G10 (M : Int → Int → List UInt8 → By → Msg) (O : Msg → By) (kinds : Ints) (n : Int) (s : List UInt8) (b : By) : G := { sp := [(15, e15), (16, (e16m M)), (18, (e18o O)), (21, e21), (26, eNew), (28, e28), (30, (eNextW decW)), (32, eBad)], keep := keep10, k0 := 0, inv := fun i s' h' => match Nat.beq i 0 with | true => L10a M O kinds n s b | false => L10b M O kinds n s b s' h' }
def K10 (M : Int → Int → List UInt8 → By → Msg) (O : Msg → By) (kinds : Ints) (n : Int) (s : List UInt8) (b : By) : KT := leafK (G10 M O kinds n s b).sp res10 false 0 (fun a h => a = .bool true ∧ h = [])
theorem g10_keep (M : Int → Int → List UInt8 → By → Msg) (O : Msg → By) (kinds : Ints) (n : Int) (s : List UInt8) (b : By) : (G10 M O kinds n s b).keep = keep10 := rfl
theorem g10_k0 (M : Int → Int → List UInt8 → By → Msg) (O : Msg → By) (kinds : Ints) (n : Int) (s : List UInt8) (b : By) : (G10 M O kinds n s b).k0 = 0 := rfl
theorem g10_inv (M : Int → Int → List UInt8 → By → Msg) (O : Msg → By) (kinds : Ints) (n : Int) (s : List UInt8) (b : By) (i : Nat) (s' : SL) (h' : List AO) : (G10 M O kinds n s b).inv i s' h' = match Nat.beq i 0 with | true => L10a M O kinds n s b | false => L10b M O kinds n s b s' h' := rfl
theorem g10_15 (M : Int → Int → List UInt8 → By → Msg) (O : Msg → By) (kinds : Ints) (n : Int) (s : List UInt8) (b : By) : sfind (G10 M O kinds n s b).sp 15 = some e15 := rfl
theorem g10_16 (M : Int → Int → List UInt8 → By → Msg) (O : Msg → By) (kinds : Ints) (n : Int) (s : List UInt8) (b : By) : sfind (G10 M O kinds n s b).sp 16 = some (e16m M) := rfl
theorem g10_18 (M : Int → Int → List UInt8 → By → Msg) (O : Msg → By) (kinds : Ints) (n : Int) (s : List UInt8) (b : By) : sfind (G10 M O kinds n s b).sp 18 = some (e18o O) := rfl
theorem g10_21 (M : Int → Int → List UInt8 → By → Msg) (O : Msg → By) (kinds : Ints) (n : Int) (s : List UInt8) (b : By) : sfind (G10 M O kinds n s b).sp 21 = some e21 := rfl
theorem g10_26 (M : Int → Int → List UInt8 → By → Msg) (O : Msg → By) (kinds : Ints) (n : Int) (s : List UInt8) (b : By) : sfind (G10 M O kinds n s b).sp 26 = some eNew := rfl
theorem g10_28 (M : Int → Int → List UInt8 → By → Msg) (O : Msg → By) (kinds : Ints) (n : Int) (s : List UInt8) (b : By) : sfind (G10 M O kinds n s b).sp 28 = some e28 := rfl
theorem g10_30 (M : Int → Int → List UInt8 → By → Msg) (O : Msg → By) (kinds : Ints) (n : Int) (s : List UInt8) (b : By) : sfind (G10 M O kinds n s b).sp 30 = some (eNextW decW) := rfl
theorem g10_32 (M : Int → Int → List UInt8 → By → Msg) (O : Msg → By) (kinds : Ints) (n : Int) (s : List UInt8) (b : By) : sfind (G10 M O kinds n s b).sp 32 = some eBad := rfl
theorem g10_21p (M : Int → Int → List UInt8 → By → Msg) (O : Msg → By) (kinds : Ints) (n : Int) (s : List UInt8) (b : By) : sfind (sp0 (G10 M O kinds n s b).sp) 21 = some ⟨true, s0f e21.f⟩ := rfl
theorem lapp_app : ∀ (a b : List AV), lapp a b = a ++ b
  | [], b => by simp [lapp]
  | x :: a, b => by simp [lapp, lapp_app a b]
theorem ltake_app : ∀ (a b : List AV), ltake (lapp a b) a.length = some a
  | [], b => by cases b <;> rfl
  | x :: a, b => by
    have := ltake_app a b
    simp [lapp, ltake, this]
theorem ldrop_app : ∀ (a b : List AV) (n : Nat), ldrop (lapp a b) (a.length + n) = ldrop b n
  | [], b, n => by simp [lapp]
  | x :: a, b, n => by
    have := ldrop_app a b n
    rw [show (x :: a).length + n = a.length + n + 1 by simp; omega]
    simp [lapp, ldrop, this]
theorem flat_get : ∀ (ms : List Msg) (j : Nat), j < ms.length → ltake (ldrop (flatC ms) (j * 26)) 26 = some (ms.getD j Msg.zero).C
  | [], j, h => by simp at h
  | m :: r, 0, _ => ltake_app m.C (flatC r)
  | m :: r, j + 1, h => by
    have e : (j + 1) * 26 = m.C.length + j * 26 := by show _ = 26 + j * 26; omega
    rw [e, flatC, ldrop_app, flat_get r j (by simpa using h)]
    rfl
theorem flat_snoc : ∀ (ms : List Msg) (m : Msg), lapp (flatC ms) m.C = flatC (ms ++ [m])
  | [], m => by simp [flatC, lapp, lapp_app]
  | x :: r, m => by
    have := flat_snoc r m
    simp only [flatC, List.cons_append, ← this, lapp_app, List.append_assoc]
theorem llen_eq' : ∀ l : List AV, llen l = l.length
  | [] => rfl
  | _ :: l => by simp [llen, llen_eq' l]
theorem flat_len : ∀ ms : List Msg, llen (flatC ms) = ms.length * 26
  | [] => rfl
  | m :: r => by
    have := flat_len r
    rw [llen_eq'] at this ⊢
    rw [flatC, lapp_app, List.length_append, this]
    show 26 + r.length * 26 = (r.length + 1) * 26; omega
theorem flat_below (k : Nat) : ∀ ms : List Msg, belowL k (flatC ms) = true
  | [] => rfl
  | m :: r => by
    have := flat_below k r
    show belowL k (lapp m.C (flatC r)) = true
    rw [Msg.C]
    dsimp only [lapp, By.A, belowL, below]
    exact this
theorem msL_len (M : Int → Int → List UInt8 → By → Msg) (kinds : Ints) (n : Int) (s : List UInt8) (b : By) : ∀ i, (msL M kinds n s b i).length = i
  | 0 => rfl
  | i + 1 => by rw [msL, List.length_append, msL_len]; rfl
theorem bytesL_snoc (O : Msg → By) : ∀ (ms : List Msg) (m : Msg), bytesL O (ms ++ [m]) = bytesL O ms ++ (O m).l
  | [], m => by simp [bytesL]
  | x :: r, m => by simp [bytesL, bytesL_snoc O r m]
theorem bytesL_drop (O : Msg → By) : ∀ (ms : List Msg) (j : Nat), j < ms.length → bytesL O (ms.drop j) = (O (ms.getD j Msg.zero)).l ++ bytesL O (ms.drop (j + 1))
  | [], j, h => by simp at h
  | m :: r, 0, _ => rfl
  | m :: r, j + 1, h => bytesL_drop O r j (by simpa using h)
theorem bytesL_len (O : Msg → By) (hO : ∀ m, (O m).l.length ≤ 202) : ∀ ms : List Msg, (bytesL O ms).length ≤ 202 * ms.length
  | [] => Nat.le_refl _
  | m :: r => by
    have := bytesL_len O hO r
    have := hO m
    rw [bytesL, List.length_append, List.length_cons]; omega
theorem Wrote.snoc {O : Msg → By} (hO : ∀ m, (O m).l.length ≤ 202) {p : Sw} {ms : List Msg} (h : Wrote O p ms) (hl : ms.length ≤ 100) (m : Msg) : Wrote O (p.wrote (O m)) (ms ++ [m]) := by
  obtain ⟨h1, h2, h3, h4⟩ := h
  have := hO m
  have ho : p.over = false := by
    rw [Sw.over, h2, decide_eq_false (by omega)]; rfl
  rw [Sw.wrote, ho]
  refine ⟨?_, rfl, ?_, ?_⟩
  · show (catB p.b (O m)).l = _; rw [catB_l, bytesL_snoc, h1]
  · show 0 ≤ w64 (p.n + ((O m).l.length : Int)); rw [w64_in (by omega)]; omega
  · show w64 (p.n + ((O m).l.length : Int)) ≤ _; rw [w64_in (by omega), List.length_append]; simp only [List.length_cons, List.length_nil]; omega
theorem Wrote.over {O : Msg → By} {p : Sw} {ms : List Msg} (h : Wrote O p ms) (hl : ms.length ≤ 100) : p.over = false := by
  obtain ⟨h1, h2, h3, h4⟩ := h
  rw [Sw.over, h2, decide_eq_false (by omega)]; rfl
set_option maxHeartbeats 4000000 in
theorem get10 (M : Int → Int → List UInt8 → By → Msg) (O : Msg → By) (kinds : Ints) (n : Int) (s : List UInt8) (b : By) (m : Msg) (ms : List Msg) (L : Nat) (hL : ms.length = L) (j : Nat) (hj : j < ms.length) (d : Msg) (hd : d.same (ms.getD j Msg.zero) = true) (p : Sw) (m0 : Msg) (k r : KT) (X : List (Nat × KT)) (v0 v1 v2 v3 v8 v11 v12 v13 v14 v19 v21 v29 v32 v40 v59 v67 v71 v89 : AV) (hk : k [(0, v0), (1, v1), (2, v2), (3, v3), (8, v8), (9, .ptr 0 0 0), (10, .ms false 2 0 0 L 26), (11, v11), (12, v12), (13, v13), (14, v14), (15, .int j), (16, .ptr 3 0 0), (17, .bool true), (19, v19), (21, v21), (29, v29), (32, v32), (40, v40), (59, v59), (67, v67), (71, v71), (89, .bool false)] [⟨0, p.A, false⟩, ⟨0, .agg m0.C, false⟩, ⟨0, .agg (flatC ms), false⟩, ⟨0, .agg d.C, false⟩]) : run (G10 M O kinds n s b) t10_79 k X r [(0, v0), (1, v1), (2, v2), (3, v3), (8, v8), (9, .ptr 0 0 0), (10, .ms false 2 0 0 L 26), (11, v11), (12, v12), (13, v13), (14, v14), (15, .int j), (16, .ptr 3 0 0), (17, .bool true), (19, v19), (21, v21), (29, v29), (32, v32), (40, v40), (59, v59), (67, v67), (71, v71), (89, v89)] [⟨0, p.A, false⟩, ⟨0, .agg m0.C, false⟩, ⟨0, .agg (flatC ms), false⟩, ⟨0, .agg d.C, false⟩] := by
  subst hL
  dsimp only [g10_keep, g10_k0, g10_inv, g10_21p, g10_15, g10_16, g10_18, g10_21, g10_26, g10_28, g10_30, g10_32, t10_79, keep10, e15, e16m, e18o, e21, e28, eBad, eNew, eNextW, Num.eta, By.eta, msgD, Msg.eta, Msg.C, swD, Sw.eta, Sw.A, run, runOps, onER, doOp, noOp, ifB, onG, onGd, onB, onL, xfB, lookB, ↓fork_true, ↓fork_false, chkC, evc, vOnly, ev, evBin, evUn, evEq, evConv, evSlice, evApp, appSl, appMs, evCall, sfind, srcS, rdS, nilK, ctakeT0, eq1, eqs, shn, ngt, xv, xvs, xi, look, Go.Abs.put, trim, conj, both, argS, leafK, resv, one, one1, ofC, frzL, frzV, hasMs, hasMsL, hlen, hget, hset, hsnoc, htake, lget, ldrop, ltake, lset, lapp, lput, llen, lrep, cget, csub, cexp, exU8, exU32, exInt, cset, cput, capp, clen, toC, csubT, ctakeT, cdropT, celT, mulz, typed, ab?, ai?, au?, zeros, lay, lenS, offS, fulS, cutS, cutT, bnds, below, belowL, hbelow, sbelow, xfind, fits, eqS, eqH, eqO, loopK, sameS, sameH, SameL, Nat.beq, Nat.ble, Int.reduceToNat, Nat.reduceAdd, Nat.reduceMul, Nat.reduceSub, Int.reduceLT, Int.reduceLE, Int.reduceNeg, UInt64.reduceToNat, UInt32.reduceToNat, UInt8.reduceToNat, G0, GL, ev0, ev1, ev2, ev3, ev4, intD, u32D, u8D, boolD, strD, byD, numD, intsD, By.A, Num.C, sp0, s0f, objOf, peelB, startK, entryK, finB, allX, andE, GK, GKL, GR, onR, rfind, noR, fdShape, elT, allN, endR, retR, failK, rangeP, Nat.blt, Nat.succ, evP, l0D, l1D, l2D, frzI, frzR, ownF, frzC, frzA, frzJ, allFz, nestL]
  have hf := flat_get ms j hj
  rw [show 0 + (j : Int).toNat * 26 = j * 26 by simp]
  rw [hf]
  dsimp only [g10_keep, g10_k0, g10_inv, g10_21p, g10_15, g10_16, g10_18, g10_21, g10_26, g10_28, g10_30, g10_32, e21, o10_87, Num.eta, By.eta, msgD, Msg.eta, Msg.C, run, runOps, onER, doOp, noOp, ifB, onG, onGd, onB, onL, xfB, lookB, ↓fork_true, ↓fork_false, chkC, evc, vOnly, ev, evBin, evUn, evEq, evConv, evSlice, evApp, appSl, appMs, evCall, sfind, srcS, rdS, nilK, ctakeT0, eq1, eqs, shn, ngt, xv, xvs, xi, look, Go.Abs.put, trim, conj, both, argS, leafK, resv, one, one1, ofC, frzL, frzV, hasMs, hasMsL, hlen, hget, hset, hsnoc, htake, lget, ldrop, ltake, lset, lapp, lput, llen, lrep, cget, csub, cexp, exU8, exU32, exInt, cset, cput, capp, clen, toC, csubT, ctakeT, cdropT, celT, mulz, typed, ab?, ai?, au?, zeros, lay, lenS, offS, fulS, cutS, cutT, bnds, below, belowL, hbelow, sbelow, xfind, fits, eqS, eqH, eqO, loopK, sameS, sameH, SameL, Nat.beq, Nat.ble, Int.reduceToNat, Nat.reduceAdd, Nat.reduceMul, Nat.reduceSub, Int.reduceLT, Int.reduceLE, Int.reduceNeg, UInt64.reduceToNat, UInt32.reduceToNat, UInt8.reduceToNat, G0, GL, ev0, ev1, ev2, ev3, ev4, intD, u32D, u8D, boolD, strD, byD, numD, intsD, By.A, Num.C, sp0, s0f, objOf, peelB, startK, entryK, finB, allX, andE, GK, GKL, GR, onR, rfind, noR, fdShape, elT, allN, endR, retR, failK, rangeP, Nat.blt, Nat.succ, evP, l0D, l1D, l2D, frzI, frzR, ownF, frzC, frzA, frzJ, allFz, nestL]
  rw [hd]
  refine fork_intro (fun h => by cases h) (fun _ => ⟨by omega, ?_⟩)
  dsimp only [g10_keep, g10_k0, g10_inv, g10_21p, g10_15, g10_16, g10_18, g10_21, g10_26, g10_28, g10_30, g10_32, q10, run, runOps, onER, doOp, noOp, ifB, onG, onGd, onB, onL, xfB, lookB, ↓fork_true, ↓fork_false, chkC, evc, vOnly, ev, evBin, evUn, evEq, evConv, evSlice, evApp, appSl, appMs, evCall, sfind, srcS, rdS, nilK, ctakeT0, eq1, eqs, shn, ngt, xv, xvs, xi, look, Go.Abs.put, trim, conj, both, argS, leafK, resv, one, one1, ofC, frzL, frzV, hasMs, hasMsL, hlen, hget, hset, hsnoc, htake, lget, ldrop, ltake, lset, lapp, lput, llen, lrep, cget, csub, cexp, exU8, exU32, exInt, cset, cput, capp, clen, toC, csubT, ctakeT, cdropT, celT, mulz, typed, ab?, ai?, au?, zeros, lay, lenS, offS, fulS, cutS, cutT, bnds, below, belowL, hbelow, sbelow, xfind, fits, eqS, eqH, eqO, loopK, sameS, sameH, SameL, Nat.beq, Nat.ble, Int.reduceToNat, Nat.reduceAdd, Nat.reduceMul, Nat.reduceSub, Int.reduceLT, Int.reduceLE, Int.reduceNeg, UInt64.reduceToNat, UInt32.reduceToNat, UInt8.reduceToNat, G0, GL, ev0, ev1, ev2, ev3, ev4, intD, u32D, u8D, boolD, strD, byD, numD, intsD, By.A, Num.C, sp0, s0f, objOf, peelB, startK, entryK, finB, allX, andE, GK, GKL, GR, onR, rfind, noR, fdShape, elT, allN, endR, retR, failK, rangeP, Nat.blt, Nat.succ, evP, l0D, l1D, l2D, frzI, frzR, ownF, frzC, frzA, frzJ, allFz, nestL]
  exact hk
set_option maxHeartbeats 4000000 in
theorem app10 (M : Int → Int → List UInt8 → By → Msg) (O : Msg → By) (kinds : Ints) (n : Int) (s : List UInt8) (b : By) (x : By) (i : Int) (m m0 : Msg) (ms : List Msg) (c : Nat) (hc : ms.length = c + 1) (hs : c ≤ 100) (p : Sw) (hp : p.over = false) (hl : p.b.l.length + x.l.length ≤ 1099511627776) (k r : KT) (X : List (Nat × KT)) (v8 v15 v16 v17 v19 v21 v29 v32 v40 v59 v67 v71 v89 : AV) (hk : k [(0, kinds.A), (1, .int n), (2, .str s), (3, b.A), (8, v8), (9, .ptr 0 0 0), (10, .ms false 2 1 0 (c + 1 + 1) 26), (11, .int i), (12, .ptr 3 0 0), (13, x.A), (14, .bool true), (15, v15), (16, v16), (17, v17), (19, v19), (21, v21), (29, v29), (32, v32), (40, v40), (59, v59), (67, .bool false), (71, v71), (89, v89)] [⟨0, (p.wrote x).A, false⟩, ⟨0, .agg m0.C, false⟩, ⟨1, .agg (flatC (ms ++ [m])), false⟩, ⟨0, .agg m.C, false⟩]) : run (G10 M O kinds n s b) t10_60 k X r [(0, kinds.A), (1, .int n), (2, .str s), (3, b.A), (8, v8), (9, .ptr 0 0 0), (10, .ms false 2 0 0 (c + 1) 26), (11, .int i), (12, .ptr 3 0 0), (13, x.A), (14, .bool true), (15, v15), (16, v16), (17, v17), (19, v19), (21, v21), (29, v29), (32, v32), (40, v40), (59, v59), (67, v67), (71, v71), (89, v89)] [⟨0, p.A, false⟩, ⟨0, .agg m0.C, false⟩, ⟨0, .agg (flatC ms), false⟩, ⟨0, .agg m.C, false⟩] := by
  dsimp only [g10_keep, g10_k0, g10_inv, g10_21p, g10_15, g10_16, g10_18, g10_21, g10_26, g10_28, g10_30, g10_32, t10_60, keep10, e28, Num.eta, By.eta, msgD, Msg.eta, Msg.C, swD, Sw.eta, Sw.A, run, runOps, onER, doOp, noOp, ifB, onG, onGd, onB, onL, xfB, lookB, ↓fork_true, ↓fork_false, chkC, evc, vOnly, ev, evBin, evUn, evEq, evConv, evSlice, evApp, appSl, appMs, evCall, sfind, srcS, rdS, nilK, ctakeT0, eq1, eqs, shn, ngt, xv, xvs, xi, look, Go.Abs.put, trim, conj, both, argS, leafK, resv, one, one1, ofC, frzL, frzV, hasMs, hasMsL, hlen, hget, hset, hsnoc, htake, lget, ldrop, ltake, lset, lapp, lput, llen, lrep, cget, csub, cexp, exU8, exU32, exInt, cset, cput, capp, clen, toC, csubT, ctakeT, cdropT, celT, mulz, typed, ab?, ai?, au?, zeros, lay, lenS, offS, fulS, cutS, cutT, bnds, below, belowL, hbelow, sbelow, xfind, fits, eqS, eqH, eqO, loopK, sameS, sameH, SameL, Nat.beq, Nat.ble, Int.reduceToNat, Nat.reduceAdd, Nat.reduceMul, Nat.reduceSub, Int.reduceLT, Int.reduceLE, Int.reduceNeg, UInt64.reduceToNat, UInt32.reduceToNat, UInt8.reduceToNat, G0, GL, ev0, ev1, ev2, ev3, ev4, intD, u32D, u8D, boolD, strD, byD, numD, intsD, By.A, Num.C, sp0, s0f, objOf, peelB, startK, entryK, finB, allX, andE, GK, GKL, GR, onR, rfind, noR, fdShape, elT, allN, endR, retR, failK, rangeP, Nat.blt, Nat.succ, evP, l0D, l1D, l2D, frzI, frzR, ownF, frzC, frzA, frzJ, allFz, nestL]
  rw [flat_len, hp]
  refine ⟨⟨by rw [hc], by omega⟩, hl, fork_intro (fun h => by cases h) (fun _ => ?_)⟩
  have e := flat_snoc ms m
  rw [← e] at hk
  exact hk
set_option maxHeartbeats 4000000 in
theorem app10n (M : Int → Int → List UInt8 → By → Msg) (O : Msg → By) (kinds : Ints) (n : Int) (s : List UInt8) (b : By) (x : By) (i : Int) (m : Msg) (p : Sw) (hp : p.over = false) (hl : p.b.l.length + x.l.length ≤ 1099511627776) (k r : KT) (X : List (Nat × KT)) (v8 v15 v16 v17 v19 v21 v29 v32 v40 v59 v67 v71 v89 : AV) (hk : k [(0, kinds.A), (1, .int n), (2, .str s), (3, b.A), (8, v8), (9, .ptr 0 0 0), (10, .ms false 2 0 0 1 26), (11, .int i), (12, .ptr 1 0 0), (13, x.A), (14, .bool true), (15, v15), (16, v16), (17, v17), (19, v19), (21, v21), (29, v29), (32, v32), (40, v40), (59, v59), (67, .bool false), (71, v71), (89, v89)] [⟨0, (p.wrote x).A, false⟩, ⟨0, .agg m.C, false⟩, ⟨0, .agg (flatC [m]), false⟩]) : run (G10 M O kinds n s b) t10_60 k X r [(0, kinds.A), (1, .int n), (2, .str s), (3, b.A), (8, v8), (9, .ptr 0 0 0), (10, .sl true 0 0 (.agg []) true), (11, .int i), (12, .ptr 1 0 0), (13, x.A), (14, .bool true), (15, v15), (16, v16), (17, v17), (19, v19), (21, v21), (29, v29), (32, v32), (40, v40), (59, v59), (67, v67), (71, v71), (89, v89)] [⟨0, p.A, false⟩, ⟨0, .agg m.C, false⟩] := by
  dsimp only [g10_keep, g10_k0, g10_inv, g10_21p, g10_15, g10_16, g10_18, g10_21, g10_26, g10_28, g10_30, g10_32, t10_60, keep10, e28, Num.eta, By.eta, msgD, Msg.eta, Msg.C, swD, Sw.eta, Sw.A, run, runOps, onER, doOp, noOp, ifB, onG, onGd, onB, onL, xfB, lookB, ↓fork_true, ↓fork_false, chkC, evc, vOnly, ev, evBin, evUn, evEq, evConv, evSlice, evApp, appSl, appMs, evCall, sfind, srcS, rdS, nilK, ctakeT0, eq1, eqs, shn, ngt, xv, xvs, xi, look, Go.Abs.put, trim, conj, both, argS, leafK, resv, one, one1, ofC, frzL, frzV, hasMs, hasMsL, hlen, hget, hset, hsnoc, htake, lget, ldrop, ltake, lset, lapp, lput, llen, lrep, cget, csub, cexp, exU8, exU32, exInt, cset, cput, capp, clen, toC, csubT, ctakeT, cdropT, celT, mulz, typed, ab?, ai?, au?, zeros, lay, lenS, offS, fulS, cutS, cutT, bnds, below, belowL, hbelow, sbelow, xfind, fits, eqS, eqH, eqO, loopK, sameS, sameH, SameL, Nat.beq, Nat.ble, Int.reduceToNat, Nat.reduceAdd, Nat.reduceMul, Nat.reduceSub, Int.reduceLT, Int.reduceLE, Int.reduceNeg, UInt64.reduceToNat, UInt32.reduceToNat, UInt8.reduceToNat, G0, GL, ev0, ev1, ev2, ev3, ev4, intD, u32D, u8D, boolD, strD, byD, numD, intsD, By.A, Num.C, sp0, s0f, objOf, peelB, startK, entryK, finB, allX, andE, GK, GKL, GR, onR, rfind, noR, fdShape, elT, allN, endR, retR, failK, rangeP, Nat.blt, Nat.succ, evP, l0D, l1D, l2D, frzI, frzR, ownF, frzC, frzA, frzJ, allFz, nestL]
  rw [hp]
  refine ⟨by omega, hl, fork_intro (fun h => by cases h) (fun _ => ?_)⟩
  exact hk
end Go.Abs

namespace Go.Abs
open Go.Proofs
set_option maxRecDepth 100000

set_option maxHeartbeats 8000000 in
theorem loop10 (M : Int → Int → List UInt8 → By → Msg) (O : Msg → By) (kinds : Ints) (n : Int) (s : List UInt8) (b : By) (hMn : ∀ k n s b, (M k n s b).name.length ≤ 1099511627776) (hMR : ∀ k n s b, (M k n s b).isR = true) (hO : ∀ m, (O m).l.length ≤ 202) (hs : s.length ≤ 1099511627776) (hb : b.l.length ≤ 1099511627776) (k r : KT) (X : List (Nat × KT)) (v12 v13 v14 v15 v16 v17 v19 v21 v29 v32 v40 v59 v67 v71 v89 : AV) (sw0 : Sw) (hN : Wrote O sw0 []) (hkA : ∀ w : AV, k [(0, kinds.A), (1, .int n), (2, .str s), (3, b.A), (8, .bool false), (9, .ptr 0 0 0), (10, .sl true 0 0 (.agg []) true), (11, .int 0), (12, v12), (13, v13), (14, v14), (15, v15), (16, v16), (17, v17), (19, v19), (21, v21), (29, v29), (32, v32), (40, w), (59, v59), (67, v67), (71, v71), (89, v89)] [⟨0, sw0.A, false⟩]) (hkB : ∀ (c : Nat) (p : Sw) (m : Msg) (w : AV), c + 1 ≤ 12 → Wrote O p (msL M kinds n s b (c + 1)) → k [(0, kinds.A), (1, .int n), (2, .str s), (3, b.A), (8, .any), (9, .ptr 0 0 0), (10, .ms false 2 0 0 (c + 1) 26), (11, .int (c + 1 : Nat)), (12, .any), (13, .any), (14, .any), (15, .any), (16, .any), (17, .any), (19, .any), (21, .any), (29, .any), (32, .any), (40, w), (59, .any), (67, .any), (71, .any), (89, .any)] [⟨0, p.A, false⟩, ⟨0, .agg m.C, false⟩, ⟨0, .agg (flatC (msL M kinds n s b (c + 1))), false⟩]) : run (G10 M O kinds n s b) t10_33 k X r [(0, kinds.A), (1, .int n), (2, .str s), (3, b.A), (8, .bool false), (9, .ptr 0 0 0), (10, .sl true 0 0 (.agg []) true), (11, .int 0), (12, v12), (13, v13), (14, v14), (15, v15), (16, v16), (17, v17), (19, v19), (21, v21), (29, v29), (32, v32), (40, v40), (59, v59), (67, v67), (71, v71), (89, v89)] [⟨0, sw0.A, false⟩] := by
  dsimp only [g10_keep, g10_k0, g10_inv, g10_21p, g10_15, g10_16, g10_18, g10_21, g10_26, g10_28, g10_30, g10_32, t10_33, L10a, Ints.A, isD, keep10, e15, e16m, e18o, e21, e28, eBad, eNew, eNextW, Num.eta, By.eta, msgD, Msg.eta, Msg.C, swD, Sw.eta, Sw.A, run, runOps, onER, doOp, noOp, ifB, onG, onGd, onB, onL, xfB, lookB, ↓fork_true, ↓fork_false, chkC, evc, vOnly, ev, evBin, evUn, evEq, evConv, evSlice, evApp, appSl, appMs, evCall, sfind, srcS, rdS, nilK, ctakeT0, eq1, eqs, shn, ngt, xv, xvs, xi, look, Go.Abs.put, trim, conj, both, argS, leafK, resv, one, one1, ofC, frzL, frzV, hasMs, hasMsL, hlen, hget, hset, hsnoc, htake, lget, ldrop, ltake, lset, lapp, lput, llen, lrep, cget, csub, cexp, exU8, exU32, exInt, cset, cput, capp, clen, toC, csubT, ctakeT, cdropT, celT, mulz, typed, ab?, ai?, au?, zeros, lay, lenS, offS, fulS, cutS, cutT, bnds, below, belowL, hbelow, sbelow, xfind, fits, eqS, eqH, eqO, loopK, sameS, sameH, SameL, Nat.beq, Nat.ble, Int.reduceToNat, Nat.reduceAdd, Nat.reduceMul, Nat.reduceSub, Int.reduceLT, Int.reduceLE, Int.reduceNeg, UInt64.reduceToNat, UInt32.reduceToNat, UInt8.reduceToNat, G0, GL, ev0, ev1, ev2, ev3, ev4, intD, u32D, u8D, boolD, strD, byD, numD, intsD, By.A, Num.C, sp0, s0f, objOf, peelB, startK, entryK, finB, allX, andE, GK, GKL, GR, onR, rfind, noR, fdShape, elT, allN, endR, retR, failK, rangeP, Nat.blt, Nat.succ, evP, l0D, l1D, l2D, frzI, frzR, ownF, frzC, frzA, frzJ, allFz, nestL]
  refine ⟨fork_intro (fun h => fork_intro (fun _ => ?_) (fun _ => hkA _)) (fun _ => hkA _), fun x hx => ?_⟩
  · have h := of_decide_eq_true h
    have hw := hN.snoc hO (Nat.zero_le _) (M ([kinds.l.getD 0 0].getD 0 0) (w64 (n + 0)) s b)
    obtain ⟨y, hy⟩ : ∃ y, y = O (M ([kinds.l.getD 0 0].getD 0 0) (w64 (n + 0)) s b) := ⟨_, rfl⟩
    have hyl := hO (M ([kinds.l.getD 0 0].getD 0 0) (w64 (n + 0)) s b)
    have hn := And.intro (hMn ([kinds.l.getD 0 0].getD 0 0) (w64 (n + 0)) s b) (hMR ([kinds.l.getD 0 0].getD 0 0) (w64 (n + 0)) s b)
    rw [← hy] at hw hyl ⊢
    have em : msL M kinds n s b (0 + 1) = [] ++ [M ([kinds.l.getD 0 0].getD 0 0) (w64 (n + 0)) s b] := rfl
    refine ⟨by omega, by simp, ⟨hs, hb⟩, rfl, hn, fork_intro (fun h => by cases h) (fun _ => ?_)⟩
    refine app10n M O kinds n s b y 0 (M ([kinds.l.getD 0 0].getD 0 0) (w64 (n + 0)) s b) sw0 (hN.over (Nat.zero_le _)) ?_ _ _ _ _ _ _ _ _ _ _ _ _ _ _ _ _ ?_
    · rw [hN.1]; show 0 + _ ≤ _; omega
    · generalize M ([kinds.l.getD 0 0].getD 0 0) (w64 (n + 0)) s b = m at *
      dsimp only [g10_keep, g10_k0, g10_inv, g10_21p, g10_15, g10_16, g10_18, g10_21, g10_26, g10_28, g10_30, g10_32, q10_41, keep10, run, runOps, onER, doOp, noOp, ifB, onG, onGd, onB, onL, xfB, lookB, ↓fork_true, ↓fork_false, chkC, evc, vOnly, ev, evBin, evUn, evEq, evConv, evSlice, evApp, appSl, appMs, evCall, sfind, srcS, rdS, nilK, ctakeT0, eq1, eqs, shn, ngt, xv, xvs, xi, look, Go.Abs.put, trim, conj, both, argS, leafK, resv, one, one1, ofC, frzL, frzV, hasMs, hasMsL, hlen, hget, hset, hsnoc, htake, lget, ldrop, ltake, lset, lapp, lput, llen, lrep, cget, csub, cexp, exU8, exU32, exInt, cset, cput, capp, clen, toC, csubT, ctakeT, cdropT, celT, mulz, typed, ab?, ai?, au?, zeros, lay, lenS, offS, fulS, cutS, cutT, bnds, below, belowL, hbelow, sbelow, xfind, fits, eqS, eqH, eqO, loopK, sameS, sameH, SameL, Nat.beq, Nat.ble, Int.reduceToNat, Nat.reduceAdd, Nat.reduceMul, Nat.reduceSub, Int.reduceLT, Int.reduceLE, Int.reduceNeg, UInt64.reduceToNat, UInt32.reduceToNat, UInt8.reduceToNat, G0, GL, ev0, ev1, ev2, ev3, ev4, intD, u32D, u8D, boolD, strD, byD, numD, intsD, By.A, Num.C, sp0, s0f, objOf, peelB, startK, entryK, finB, allX, andE, GK, GKL, GR, onR, rfind, noR, fdShape, elT, allN, endR, retR, failK, rangeP, Nat.blt, Nat.succ, evP, l0D, l1D, l2D, frzI, frzR, ownF, frzC, frzA, frzJ, allFz, nestL]
      refine ⟨(0, sw0.wrote y, m), ⟨by simp, by rw [em]; exact hw⟩, ?_, ?_⟩
      · and_intros <;> first | trivial | rfl | exact .refl rfl | exact .ptr rfl rfl rfl rfl | exact .ms rfl rfl rfl rfl
      · and_intros <;> first | trivial | rfl | exact .inl ⟨rfl, rfl⟩ | exact .inl rfl | exact .inl ⟨by rw [em]; rfl, flat_below 0 _⟩
  · obtain ⟨x1, x2⟩ := hx
    obtain ⟨i, p, m0⟩ := x
    have x1 : i + 1 ≤ 12 := x1
    have x2 : Wrote O p (msL M kinds n s b (i + 1)) := x2
    refine fork_intro (fun h => fork_intro (fun h8 => ?_) (fun _ => hkB _ _ _ _ x1 x2)) (fun _ => hkB _ _ _ _ x1 x2)
    have h := of_decide_eq_true h
    have h8 := of_decide_eq_true h8
    have hl : (msL M kinds n s b (i + 1)).length = i + 1 := msL_len M kinds n s b (i + 1)
    have hw := x2.snoc hO (by omega) (M ([kinds.l.getD (i + 1) 0].getD 0 0) (w64 (n + ((i + 1 : Nat) : Int))) s b)
    have em : msL M kinds n s b (i + 1 + 1) = msL M kinds n s b (i + 1) ++ [M ([kinds.l.getD (i + 1) 0].getD 0 0) (w64 (n + ((i + 1 : Nat) : Int))) s b] := rfl
    have e1 : (((i + 1 : Nat) : Int)).toNat = i + 1 := Int.toNat_natCast _
    dsimp only at h h8 ⊢
    rw [e1]
    obtain ⟨y, hy⟩ : ∃ y, y = O (M ([kinds.l.getD (i + 1) 0].getD 0 0) (w64 (n + ((i + 1 : Nat) : Int))) s b) := ⟨_, rfl⟩
    have hyl := hO (M ([kinds.l.getD (i + 1) 0].getD 0 0) (w64 (n + ((i + 1 : Nat) : Int))) s b)
    have hn := And.intro (hMn ([kinds.l.getD (i + 1) 0].getD 0 0) (w64 (n + ((i + 1 : Nat) : Int))) s b) (hMR ([kinds.l.getD (i + 1) 0].getD 0 0) (w64 (n + ((i + 1 : Nat) : Int))) s b)
    rw [← hy] at hw hyl ⊢
    have hbl := bytesL_len O hO (msL M kinds n s b (i + 1))
    have ho := x2.over (by omega)
    have hpl : p.b.l.length + y.l.length ≤ 1099511627776 := by rw [x2.1]; omega
    refine ⟨by omega, by simp, ⟨hs, hb⟩, rfl, hn, fork_intro (fun h => by cases h) (fun _ => ?_)⟩
    refine app10 M O kinds n s b y (i + 1 : Nat) (M ([kinds.l.getD (i + 1) 0].getD 0 0) (w64 (n + ((i + 1 : Nat) : Int))) s b) m0 (msL M kinds n s b (i + 1)) i hl (by omega) p ho hpl _ _ _ _ _ _ _ _ _ _ _ _ _ _ _ _ ?_
    generalize M ([kinds.l.getD (i + 1) 0].getD 0 0) (w64 (n + ((i + 1 : Nat) : Int))) s b = m at *
    dsimp only [g10_keep, g10_k0, g10_inv, g10_21p, g10_15, g10_16, g10_18, g10_21, g10_26, g10_28, g10_30, g10_32, q10_41, keep10, run, runOps, onER, doOp, noOp, ifB, onG, onGd, onB, onL, xfB, lookB, ↓fork_true, ↓fork_false, chkC, evc, vOnly, ev, evBin, evUn, evEq, evConv, evSlice, evApp, appSl, appMs, evCall, sfind, srcS, rdS, nilK, ctakeT0, eq1, eqs, shn, ngt, xv, xvs, xi, look, Go.Abs.put, trim, conj, both, argS, leafK, resv, one, one1, ofC, frzL, frzV, hasMs, hasMsL, hlen, hget, hset, hsnoc, htake, lget, ldrop, ltake, lset, lapp, lput, llen, lrep, cget, csub, cexp, exU8, exU32, exInt, cset, cput, capp, clen, toC, csubT, ctakeT, cdropT, celT, mulz, typed, ab?, ai?, au?, zeros, lay, lenS, offS, fulS, cutS, cutT, bnds, below, belowL, hbelow, sbelow, xfind, fits, eqS, eqH, eqO, loopK, sameS, sameH, SameL, Nat.beq, Nat.ble, Int.reduceToNat, Nat.reduceAdd, Nat.reduceMul, Nat.reduceSub, Int.reduceLT, Int.reduceLE, Int.reduceNeg, UInt64.reduceToNat, UInt32.reduceToNat, UInt8.reduceToNat, G0, GL, ev0, ev1, ev2, ev3, ev4, intD, u32D, u8D, boolD, strD, byD, numD, intsD, By.A, Num.C, sp0, s0f, objOf, peelB, startK, entryK, finB, allX, andE, GK, GKL, GR, onR, rfind, noR, fdShape, elT, allN, endR, retR, failK, rangeP, Nat.blt, Nat.succ, evP, l0D, l1D, l2D, frzI, frzR, ownF, frzC, frzA, frzJ, allFz, nestL]
    refine ⟨(i + 1, p.wrote y, m0), ⟨by simp only; omega, by rw [em]; exact hw⟩, by simp only; omega, ?_, ?_⟩
    · rw [w64_in (n := ((i + 1 : Nat) : Int) + 1) (by omega)]
      and_intros <;> first | trivial | rfl | exact .refl rfl | exact .ptr rfl rfl rfl rfl | exact .ms rfl rfl rfl rfl
    · and_intros <;> first | trivial | rfl | exact .inl ⟨rfl, rfl⟩ | exact .inl rfl | exact .inl ⟨by rw [em], flat_below 0 _⟩
set_option maxHeartbeats 8000000 in
theorem end10 (M : Int → Int → List UInt8 → By → Msg) (O : Msg → By) (kinds : Ints) (n : Int) (s : List UInt8) (b : By) (z : Bool) (N : Int) (rest : List AO) (hf : rest = [] ∨ ∃ (m0 : Msg) (ms : List Msg), rest = [⟨0, .agg m0.C, false⟩, ⟨0, .agg (flatC ms), false⟩]) (v0 v1 v2 v3 v8 v10 v11 v12 v13 v14 v15 v16 v17 v19 v21 v29 v32 v40 v59 v67 v71 v89 : AV) : run (G10 M O kinds n s b) t10_91 (K10 M O kinds n s b) [] (K10 M O kinds n s b) [(0, v0), (1, v1), (2, v2), (3, v3), (8, v8), (9, .ptr 0 0 0), (10, v10), (11, v11), (12, v12), (13, v13), (14, v14), (15, v15), (16, v16), (17, v17), (19, v19), (21, v21), (29, v29), (32, v32), (40, v40), (59, v59), (67, v67), (71, v71), (89, v89)] (⟨0, (Sw.mk ⟨z, []⟩ N false).A, false⟩ :: rest) := by
  obtain ⟨e1, e2⟩ := none_of z N false
  rcases hf with rfl | ⟨m0, ms, rfl⟩
  all_goals
    dsimp only [g10_keep, g10_k0, g10_inv, g10_21p, g10_15, g10_16, g10_18, g10_21, g10_26, g10_28, g10_30, g10_32, t10_91, Ints.A, isD, keep10, e15, e16m, e18o, e21, e28, eBad, eNew, eNextW, Num.eta, By.eta, msgD, Msg.eta, Msg.C, swD, Sw.eta, Sw.A, run, runOps, onER, doOp, noOp, ifB, onG, onGd, onB, onL, xfB, lookB, ↓fork_true, ↓fork_false, chkC, evc, vOnly, ev, evBin, evUn, evEq, evConv, evSlice, evApp, appSl, appMs, evCall, sfind, srcS, rdS, nilK, ctakeT0, eq1, eqs, shn, ngt, xv, xvs, xi, look, Go.Abs.put, trim, conj, both, argS, leafK, resv, one, one1, ofC, frzL, frzV, hasMs, hasMsL, hlen, hget, hset, hsnoc, htake, lget, ldrop, ltake, lset, lapp, lput, llen, lrep, cget, csub, cexp, exU8, exU32, exInt, cset, cput, capp, clen, toC, csubT, ctakeT, cdropT, celT, mulz, typed, ab?, ai?, au?, zeros, lay, lenS, offS, fulS, cutS, cutT, bnds, below, belowL, hbelow, sbelow, xfind, fits, eqS, eqH, eqO, loopK, sameS, sameH, SameL, Nat.beq, Nat.ble, Int.reduceToNat, Nat.reduceAdd, Nat.reduceMul, Nat.reduceSub, Int.reduceLT, Int.reduceLE, Int.reduceNeg, UInt64.reduceToNat, UInt32.reduceToNat, UInt8.reduceToNat, G0, GL, ev0, ev1, ev2, ev3, ev4, intD, u32D, u8D, boolD, strD, byD, numD, intsD, By.A, Num.C, sp0, s0f, objOf, peelB, startK, entryK, finB, allX, andE, GK, GKL, GR, onR, rfind, noR, fdShape, elT, allN, endR, retR, failK, rangeP, Nat.blt, Nat.succ, evP, l0D, l1D, l2D, frzI, frzR, ownF, frzC, frzA, frzJ, allFz, nestL]
    rw [e1, e2]
    dsimp only [g10_keep, g10_k0, g10_inv, g10_21p, g10_15, g10_16, g10_18, g10_21, g10_26, g10_28, g10_30, g10_32, Option.isSome, orZ, K10, res10, keep10, e15, e16m, e18o, e21, e28, eBad, eNew, eNextW, Num.eta, By.eta, msgD, Msg.eta, Msg.C, swD, Sw.eta, Sw.A, run, runOps, onER, doOp, noOp, ifB, onG, onGd, onB, onL, xfB, lookB, ↓fork_true, ↓fork_false, chkC, evc, vOnly, ev, evBin, evUn, evEq, evConv, evSlice, evApp, appSl, appMs, evCall, sfind, srcS, rdS, nilK, ctakeT0, eq1, eqs, shn, ngt, xv, xvs, xi, look, Go.Abs.put, trim, conj, both, argS, leafK, resv, one, one1, ofC, frzL, frzV, hasMs, hasMsL, hlen, hget, hset, hsnoc, htake, lget, ldrop, ltake, lset, lapp, lput, llen, lrep, cget, csub, cexp, exU8, exU32, exInt, cset, cput, capp, clen, toC, csubT, ctakeT, cdropT, celT, mulz, typed, ab?, ai?, au?, zeros, lay, lenS, offS, fulS, cutS, cutT, bnds, below, belowL, hbelow, sbelow, xfind, fits, eqS, eqH, eqO, loopK, sameS, sameH, SameL, Nat.beq, Nat.ble, Int.reduceToNat, Nat.reduceAdd, Nat.reduceMul, Nat.reduceSub, Int.reduceLT, Int.reduceLE, Int.reduceNeg, UInt64.reduceToNat, UInt32.reduceToNat, UInt8.reduceToNat, G0, GL, ev0, ev1, ev2, ev3, ev4, intD, u32D, u8D, boolD, strD, byD, numD, intsD, By.A, Num.C, sp0, s0f, objOf, peelB, startK, entryK, finB, allX, andE, GK, GKL, GR, onR, rfind, noR, fdShape, elT, allN, endR, retR, failK, rangeP, Nat.blt, Nat.succ, evP, l0D, l1D, l2D, frzI, frzR, ownF, frzC, frzA, frzJ, allFz, nestL]
    first | (and_intros <;> first | trivial | rfl | omega)
set_option maxHeartbeats 8000000 in
theorem tail10n (M : Int → Int → List UInt8 → By → Msg) (O : Msg → By) (kinds : Ints) (n : Int) (s : List UInt8) (b : By) (sw0 : Sw) (hN : Wrote O sw0 []) (v0 v1 v2 v3 v8 v11 v12 v13 v14 v15 v16 v17 v19 v21 v29 v32 v40 v59 v67 v71 v89 : AV) : run (G10 M O kinds n s b) t10_15 (K10 M O kinds n s b) [] (K10 M O kinds n s b) [(0, v0), (1, v1), (2, v2), (3, v3), (8, v8), (9, .ptr 0 0 0), (10, .sl true 0 0 (.agg []) true), (11, v11), (12, v12), (13, v13), (14, v14), (15, v15), (16, v16), (17, v17), (19, v19), (21, v21), (29, v29), (32, v32), (40, v40), (59, v59), (67, v67), (71, v71), (89, v89)] [⟨0, sw0.A, false⟩] := by
  obtain ⟨⟨z, l⟩, N, bad⟩ := sw0
  obtain ⟨h1, h2, h3, h4⟩ := hN
  have h1 : l = [] := h1
  have h2 : bad = false := h2
  subst h1 h2
  dsimp only [g10_keep, g10_k0, g10_inv, g10_21p, g10_15, g10_16, g10_18, g10_21, g10_26, g10_28, g10_30, g10_32, t10_15, t10_68, L10b, h10, n10, p10, orS, msL, bytesL, Ints.A, isD, keep10, e15, e16m, e18o, e21, e28, eBad, eNew, eNextW, Num.eta, By.eta, msgD, Msg.eta, Msg.C, swD, Sw.eta, Sw.A, run, runOps, onER, doOp, noOp, ifB, onG, onGd, onB, onL, xfB, lookB, ↓fork_true, ↓fork_false, chkC, evc, vOnly, ev, evBin, evUn, evEq, evConv, evSlice, evApp, appSl, appMs, evCall, sfind, srcS, rdS, nilK, ctakeT0, eq1, eqs, shn, ngt, xv, xvs, xi, look, Go.Abs.put, trim, conj, both, argS, leafK, resv, one, one1, ofC, frzL, frzV, hasMs, hasMsL, hlen, hget, hset, hsnoc, htake, lget, ldrop, ltake, lset, lapp, lput, llen, lrep, cget, csub, cexp, exU8, exU32, exInt, cset, cput, capp, clen, toC, csubT, ctakeT, cdropT, celT, mulz, typed, ab?, ai?, au?, zeros, lay, lenS, offS, fulS, cutS, cutT, bnds, below, belowL, hbelow, sbelow, xfind, fits, eqS, eqH, eqO, loopK, sameS, sameH, SameL, Nat.beq, Nat.ble, Int.reduceToNat, Nat.reduceAdd, Nat.reduceMul, Nat.reduceSub, Int.reduceLT, Int.reduceLE, Int.reduceNeg, UInt64.reduceToNat, UInt32.reduceToNat, UInt8.reduceToNat, G0, GL, ev0, ev1, ev2, ev3, ev4, intD, u32D, u8D, boolD, strD, byD, numD, intsD, By.A, Num.C, sp0, s0f, objOf, peelB, startK, entryK, finB, allX, andE, GK, GKL, GR, onR, rfind, noR, fdShape, elT, allN, endR, retR, failK, rangeP, Nat.blt, Nat.succ, evP, l0D, l1D, l2D, frzI, frzR, ownF, frzC, frzA, frzJ, allFz, nestL]
  refine ⟨⟨⟨?_, ?_⟩, Nat.zero_le _⟩, fun x hx => fork_intro (fun h => ?_) (fun _ => ?_)⟩
  · and_intros <;> first | trivial | rfl
  · and_intros <;> first | trivial | rfl | exact .inl rfl
  · have h := of_decide_eq_true h; omega
  · have e : ∀ x, List.drop x ([] : List Msg) = [] := fun x => by cases x <;> rfl
    rw [e]
    exact end10 M O kinds n s b z N [] (.inl rfl) _ _ _ _ _ _ _ _ _ _ _ _ _ _ _ _ _ _ _ _ _ _
set_option maxHeartbeats 8000000 in
theorem tail10 (M : Int → Int → List UInt8 → By → Msg) (O : Msg → By) (kinds : Ints) (n : Int) (s : List UInt8) (b : By) (hMW : ∀ k n s b, (M k n s b).isW = true ∧ (M k n s b).channel < 9223372036854775808) (hOW : ∀ m, O m = m.outW) (hO : ∀ m, (O m).l.length ≤ 202) (c : Nat) (hc : c + 1 ≤ 12) (p : Sw) (hp : Wrote O p (msL M kinds n s b (c + 1))) (m0 : Msg) (v0 v1 v2 v3 v8 v12 v13 v14 v15 v16 v17 v19 v21 v29 v32 v40 v59 v67 v71 v89 : AV) : run (G10 M O kinds n s b) t10_15 (K10 M O kinds n s b) [] (K10 M O kinds n s b) [(0, v0), (1, v1), (2, v2), (3, v3), (8, v8), (9, .ptr 0 0 0), (10, .ms false 2 0 0 (c + 1) 26), (11, .int (c + 1 : Nat)), (12, v12), (13, v13), (14, v14), (15, v15), (16, v16), (17, v17), (19, v19), (21, v21), (29, v29), (32, v32), (40, v40), (59, v59), (67, v67), (71, v71), (89, v89)] [⟨0, p.A, false⟩, ⟨0, .agg m0.C, false⟩, ⟨0, .agg (flatC (msL M kinds n s b (c + 1))), false⟩] := by
  obtain ⟨⟨z, l⟩, N, bad⟩ := p
  obtain ⟨h1, h2, h3, h4⟩ := hp
  have h1 : l = bytesL O (msL M kinds n s b (c + 1)) := h1
  have h2 : bad = false := h2
  have hl : (msL M kinds n s b (c + 1)).length = c + 1 := msL_len M kinds n s b (c + 1)
  have hbl := bytesL_len O hO (msL M kinds n s b (c + 1))
  have hall : ∀ (i j : Nat), j < i → ((msL M kinds n s b i).getD j Msg.zero).isW = true ∧ ((msL M kinds n s b i).getD j Msg.zero).channel < 9223372036854775808 := fun i => by
    induction i with
    | zero => intro j h; omega
    | succ i ih =>
      intro j h
      rw [msL, List.getD_eq_getElem?_getD, List.getElem?_append, msL_len]
      split
      · rename_i hj; rw [← List.getD_eq_getElem?_getD]; exact ih j hj
      · rw [show j - i = 0 by omega]; exact hMW _ _ _ _
  have hall := hall (c + 1)
  subst h2
  have hms : ∃ ms, ms = msL M kinds n s b (c + 1) := ⟨_, rfl⟩
  obtain ⟨ms, hms⟩ := hms
  dsimp only [g10_keep, g10_k0, g10_inv, g10_21p, g10_15, g10_16, g10_18, g10_21, g10_26, g10_28, g10_30, g10_32, t10_15, t10_68, L10b, h10, n10, p10, orS, Ints.A, isD, keep10, e15, e16m, e18o, e21, e28, eBad, eNew, eNextW, Num.eta, By.eta, msgD, Msg.eta, Msg.C, swD, Sw.eta, Sw.A, run, runOps, onER, doOp, noOp, ifB, onG, onGd, onB, onL, xfB, lookB, ↓fork_true, ↓fork_false, chkC, evc, vOnly, ev, evBin, evUn, evEq, evConv, evSlice, evApp, appSl, appMs, evCall, sfind, srcS, rdS, nilK, ctakeT0, eq1, eqs, shn, ngt, xv, xvs, xi, look, Go.Abs.put, trim, conj, both, argS, leafK, resv, one, one1, ofC, frzL, frzV, hasMs, hasMsL, hlen, hget, hset, hsnoc, htake, lget, ldrop, ltake, lset, lapp, lput, llen, lrep, cget, csub, cexp, exU8, exU32, exInt, cset, cput, capp, clen, toC, csubT, ctakeT, cdropT, celT, mulz, typed, ab?, ai?, au?, zeros, lay, lenS, offS, fulS, cutS, cutT, bnds, below, belowL, hbelow, sbelow, xfind, fits, eqS, eqH, eqO, loopK, sameS, sameH, SameL, Nat.beq, Nat.ble, Int.reduceToNat, Nat.reduceAdd, Nat.reduceMul, Nat.reduceSub, Int.reduceLT, Int.reduceLE, Int.reduceNeg, UInt64.reduceToNat, UInt32.reduceToNat, UInt8.reduceToNat, G0, GL, ev0, ev1, ev2, ev3, ev4, intD, u32D, u8D, boolD, strD, byD, numD, intsD, By.A, Num.C, sp0, s0f, objOf, peelB, startK, entryK, finB, allX, andE, GK, GKL, GR, onR, rfind, noR, fdShape, elT, allN, endR, retR, failK, rangeP, Nat.blt, Nat.succ, evP, l0D, l1D, l2D, frzI, frzR, ownF, frzC, frzA, frzJ, allFz, nestL]
  rw [← hms] at h1 hl hbl hall ⊢
  refine ⟨⟨⟨?_, ?_⟩, Nat.zero_le _⟩, fun x hx => fork_intro (fun h => ?_) (fun h => ?_)⟩
  · and_intros <;> first | trivial | rfl
  · and_intros <;> first | trivial | rfl | exact .inl rfl | (rw [show l = bytesL O ms from h1]; exact .inl rfl)
  · have h := of_decide_eq_true h
    have hx2 : x < ms.length := by omega
    have hd := bytesL_drop O ms x hx2
    have hm := hall x (by omega)
    have hbx : (bytesL O (ms.drop x)).length ≤ 1099511627776 := by
      have := bytesL_len O hO (ms.drop x)
      rw [List.length_drop] at this; omega
    refine ⟨hbx, ?_⟩
    rw [hd, hOW (ms.getD x Msg.zero)]
    obtain ⟨m, e1, e2, e3⟩ := first_of (ms.getD x Msg.zero) hm.1 hm.2 (bytesL O (ms.drop (x + 1))) z N
    rw [e1, e3]
    refine ⟨rfl, get10 M O kinds n s b m ms (c + 1) hl x hx2 m ((same_norm _ _).2 e2) ⟨⟨z, bytesL O (ms.drop (x + 1))⟩, N, false⟩ m0 _ _ _ _ _ _ _ _ _ _ _ _ _ _ _ _ _ _ _ _ _ ?_⟩
    dsimp only [g10_keep, g10_k0, g10_inv, g10_21p, g10_15, g10_16, g10_18, g10_21, g10_26, g10_28, g10_30, g10_32, q10_72, keep10, run, runOps, onER, doOp, noOp, ifB, onG, onGd, onB, onL, xfB, lookB, ↓fork_true, ↓fork_false, chkC, evc, vOnly, ev, evBin, evUn, evEq, evConv, evSlice, evApp, appSl, appMs, evCall, sfind, srcS, rdS, nilK, ctakeT0, eq1, eqs, shn, ngt, xv, xvs, xi, look, Go.Abs.put, trim, conj, both, argS, leafK, resv, one, one1, ofC, frzL, frzV, hasMs, hasMsL, hlen, hget, hset, hsnoc, htake, lget, ldrop, ltake, lset, lapp, lput, llen, lrep, cget, csub, cexp, exU8, exU32, exInt, cset, cput, capp, clen, toC, csubT, ctakeT, cdropT, celT, mulz, typed, ab?, ai?, au?, zeros, lay, lenS, offS, fulS, cutS, cutT, bnds, below, belowL, hbelow, sbelow, xfind, fits, eqS, eqH, eqO, loopK, sameS, sameH, SameL, Nat.beq, Nat.ble, Int.reduceToNat, Nat.reduceAdd, Nat.reduceMul, Nat.reduceSub, Int.reduceLT, Int.reduceLE, Int.reduceNeg, UInt64.reduceToNat, UInt32.reduceToNat, UInt8.reduceToNat, G0, GL, ev0, ev1, ev2, ev3, ev4, intD, u32D, u8D, boolD, strD, byD, numD, intsD, By.A, Num.C, sp0, s0f, objOf, peelB, startK, entryK, finB, allX, andE, GK, GKL, GR, onR, rfind, noR, fdShape, elT, allN, endR, retR, failK, rangeP, Nat.blt, Nat.succ, evP, l0D, l1D, l2D, frzI, frzR, ownF, frzC, frzA, frzJ, allFz, nestL]
    refine ⟨x + 1, by omega, by omega, ⟨rfl, rfl, by rw [w64_in (n := (x : Int) + 1) (by omega)]; rfl, trivial⟩, ?_⟩
    and_intros <;> first | trivial | rfl | exact .inl rfl | exact flat_below _ _ | (rw [flat_below]; rfl)
  · have h := of_decide_eq_false h
    have hx2 : x = ms.length := by omega
    have e : bytesL O (ms.drop x) = [] := by rw [hx2, List.drop_length]; rfl
    rw [e]
    exact end10 M O kinds n s b z N [⟨0, .agg m0.C, false⟩, ⟨0, .agg (flatC ms), false⟩] (.inr ⟨m0, ms, rfl⟩) _ _ _ _ _ _ _ _ _ _ _ _ _ _ _ _ _ _ _ _ _ _
theorem fn10m (M : Int → Int → List UInt8 → By → Msg) (O : Msg → By) (kinds : Ints) (n : Int) (s : List UInt8) (b : By) (hM : SpE.ok Try.prog 16 (e16m M)) (hO : SpE.ok Try.prog 18 (e18o O)) (hMn : ∀ k n s b, (M k n s b).name.length ≤ 1099511627776) (hMR : ∀ k n s b, (M k n s b).isR = true) (hMW : ∀ k n s b, (M k n s b).isW = true ∧ (M k n s b).channel < 9223372036854775808) (hOW : ∀ m, O m = m.outW) (hOl : ∀ m, (O m).l.length ≤ 202) : ACalls Try.prog 10 [kinds.A, .int n, .str s, b.A] [] (fun a h => a = .bool true ∧ h = []) := by
  refine run10 (Γ := G10 M O kinds n s b) (own := false) (kn := 0) (.cons ok15 in15 (.cons hM in16 (.cons hO in18 (.cons ok21 in21 (.cons (okNew fn26) in26 (.cons ok28 in28 (.cons (ok30 ok20) in30 (.cons ok32 in32 .nil)))))))) (Nat.le_of_ble_eq_true rfl) rfl (Nat.le_refl _) ?_
  rw [c10_eq]
  show run (G10 M O kinds n s b) c10_ (K10 M O kinds n s b) [] (K10 M O kinds n s b) (argS 0 _) []
  have dn : ∀ {p : SL}, look p 8 = .bool true → K10 M O kinds n s b p [] := fun {p} h => by
    show leafK _ [.t 8] _ _ _ _ _
    simp only [leafK, resv, h, ownF, frzL, frzV, frzR]
    exact ⟨by first | rfl | trivial, by first | rfl | trivial⟩
  dsimp only [g10_keep, g10_k0, g10_inv, g10_21p, g10_15, g10_16, g10_18, g10_21, g10_26, g10_28, g10_30, g10_32, c10_, keep10, e15, e16m, e18o, e21, e28, eBad, eNew, eNextW, Ints.A, isD, Num.eta, By.eta, msgD, Msg.eta, Msg.C, run, runOps, onER, doOp, noOp, ifB, onG, onGd, onB, onL, xfB, lookB, ↓fork_true, ↓fork_false, chkC, evc, vOnly, ev, evBin, evUn, evEq, evConv, evSlice, evApp, appSl, appMs, evCall, sfind, srcS, rdS, nilK, ctakeT0, eq1, eqs, shn, ngt, xv, xvs, xi, look, Go.Abs.put, trim, conj, both, argS, leafK, resv, one, one1, ofC, frzL, frzV, hasMs, hasMsL, hlen, hget, hset, hsnoc, htake, lget, ldrop, ltake, lset, lapp, lput, llen, lrep, cget, csub, cexp, exU8, exU32, exInt, cset, cput, capp, clen, toC, csubT, ctakeT, cdropT, celT, mulz, typed, ab?, ai?, au?, zeros, lay, lenS, offS, fulS, cutS, cutT, bnds, below, belowL, hbelow, sbelow, xfind, fits, eqS, eqH, eqO, loopK, sameS, sameH, SameL, Nat.beq, Nat.ble, Int.reduceToNat, Nat.reduceAdd, Nat.reduceMul, Nat.reduceSub, Int.reduceLT, Int.reduceLE, Int.reduceNeg, UInt64.reduceToNat, UInt32.reduceToNat, UInt8.reduceToNat, G0, GL, ev0, ev1, ev2, ev3, ev4, intD, u32D, u8D, boolD, strD, byD, numD, intsD, By.A, Num.C, sp0, s0f, objOf, peelB, startK, entryK, finB, allX, andE, GK, GKL, GR, onR, rfind, noR, fdShape, elT, allN, endR, retR, failK, rangeP, Nat.blt, Nat.succ, evP, l0D, l1D, l2D, frzI, frzR, ownF, frzC, frzA, frzJ, allFz, nestL]
  refine fork_intro (fun h => by cases h) (fun _ => fork_intro (fun _ => dn rfl) (fun h1 => fork_intro (fun _ => dn rfl) (fun h2 => ?_)))
  have h1 := of_decide_eq_false h1
  have h2 := of_decide_eq_false h2
  have hN : Wrote O Sw.new [] := ⟨rfl, rfl, Int.le_refl _, Int.le_refl _⟩
  exact loop10 M O kinds n s b hMn hMR hOl (by omega) (by omega) _ _ _ _ _ _ _ _ _ _ _ _ _ _ _ _ _ _ Sw.new hN (fun w => tail10n M O kinds n s b Sw.new hN _ _ _ _ _ _ _ _ _ _ _ _ _ _ _ _ _ _ _ _ _) (fun c p m w hc hp => tail10 M O kinds n s b hMW hOW hOl c hc p hp m _ _ _ _ _ _ _ _ _ _ _ _ _ _ _ _ _ _ _ _)
theorem fn10 (kinds : Ints) (n : Int) (s : List UInt8) (b : By) : ACalls Try.prog 10 [kinds.A, .int n, .str s, b.A] [] (fun a h => a = .bool true ∧ h = []) :=
  fn10m makeM Msg.outR kinds n s b ok16 ok18o (fun k n s b => make_name k n s b) (fun k n s b => by rw [← is_eq]; exact make_isW k n s b) (fun k n s b => ⟨make_isW k n s b, make_chan k n s b⟩) (fun m => (out_eq m).symm) outR_len
end Go.Abs
