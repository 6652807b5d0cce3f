/-
  Own work. Conditions: none. The abstract values of our own executor: what a Go value is, without addresses; the relation to the model's values. Contents of objects and slices (rows of cells), as the executor handles them; and wh
-/
import Derived.Laws.AppendOwn
import Derived.OrdersIn
import Derived.Below
import Derived.Laws.BytesArg
import Derived.Laws.StructEq
import Derived.IntWalk
import Derived.Laws.IdiomStrings
import Derived.Laws.MakeOwn
set_option linter.unusedVariables false
set_option linter.unusedSimpArgs false
set_option linter.unnecessarySimpa false
namespace Go.Abs

inductive FV where
 | y (nil : Bool) (l : List UInt8) | s (l : List UInt8) | b (b : Bool) | i (n : Int) | w (x : UInt32) | c (x : UInt8) | yo (nil : Bool) (l : List UInt8) | wy (n : Nat)
 deriving Inhabited

inductive AV where
 | any | undef
 | int (n : Int) | u8 (x : UInt8) | u32 (x : UInt32) | u64 (x : UInt64) | bool (b : Bool)
 | str (l : List UInt8)
 | nilp | ptr (i e o : Nat)
 | rop (c : AV)
 | sl (nil : Bool) (n sz : Nat) (c : AV) (full : Bool)
 | ms (nil : Bool) (i e o n sz : Nat)
 | agg (l : List AV) | ab (l : List UInt8) | ai (l : List Int) | au (l : List UInt32)
 | tup (l : List AV)
 | fn (f : Nat) (cap : List AV) | bf (f : Nat) (fs : List AV) | yl (l : Nat) | nilf
 | iface (t : Nat) (v : AV) | nili
 | rw (n sz : Nat) (f : Nat → List FV) | pel (i e k j sz : Nat)
 | ob (nil : Bool) (l : List UInt8) | wsl (n : Nat) | wp | w8
 deriving Inhabited

structure Env where
 p : Nat → Option (Array Value)
 ι : Nat → Option (Nat × Nat)
 ep : Nat → Nat
 ow : Nat → Prop
 wl : Nat → Nat

def u8v (x : UInt8) : Value := .int .u8 (x.toNat : Int)
def u32v (x : UInt32) : Value := .int .u32 (x.toNat : Int)
def u64v (x : UInt64) : Value := .int .u64 (x.toNat : Int)
def intv (n : Int) : Value := .int .i64 n

def Env.at_ (E : Env) (b o : Nat) (vs : List Value) : Prop := ∃ cs pre post, E.p b = some cs ∧ cs.toList = pre ++ vs ++ post ∧ pre.length = o

def ones (vs : List Value) : Prop := ∀ u ∈ vs, u.oneCell' = true

def relO8 (E : Env) (nil : Bool) (l : List UInt8) (v : Value) : Prop := if nil = true then v = .slice none 0 0 ∧ l = []
 else ∃ a cap vs, v = .slice (some a) l.length cap ∧ l.length ≤ cap ∧ (vs = [] ∨ ∃ b, a = ⟨b, 0, none⟩ ∧ E.at_ b 0 vs ∧ E.ow b) ∧ vs = l.map u8v
def relW (E : Env) (n : Nat) (v : Value) : Prop := (v = .slice none 0 0 ∧ n = 0) ∨ ∃ a cap, v = .slice (some a) n cap ∧ n ≤ cap ∧ (n = 0 ∨ ∃ b o, a = ⟨b, o, none⟩ ∧ o + n ≤ E.wl b)
def relF (E : Env) : FV → Value → Prop
 | .y nil l, v => if nil = true then v = .slice none 0 0 ∧ l = []
    else ∃ a cap vs, v = .slice (some a) l.length cap ∧ l.length ≤ cap ∧ (vs = [] ∨ ∃ b o, a = ⟨b, o, none⟩ ∧ E.at_ b o vs) ∧ vs = l.map u8v
 | .s l, v => ∃ s : ByteArray, v = .string s ∧ s.data.toList = l
 | .b b, v => v = .bool b
 | .i n, v => v = intv n
 | .w x, v => v = u32v x
 | .c x, v => v = u8v x
 | .yo nil l, v => relO8 E nil l v
 | .wy n, v => relW E n v
def relFL (E : Env) : List FV → List Value → Prop
 | [], vs => vs = []
 | x :: l, vs => ∃ u us, vs = u :: us ∧ relF E x u ∧ relFL E l us
def normF : Nat → List FV → List FV
 | 0, _ => []
 | n + 1, [] => .b false :: normF n []
 | n + 1, x :: l => x :: normF n l
def flatF (sz : Nat) (f : Nat → List FV) : Nat → List FV
 | 0 => []
 | n + 1 => flatF sz f n ++ normF sz (f n)

mutual
def rel (E : Env) : AV → Value → Prop
 | .any, _ => True
 | .undef, v => v = undef
 | .int n, v => v = intv n
 | .u8 x, v => v = u8v x
 | .u32 x, v => v = u32v x
 | .u64 x, v => v = u64v x
 | .bool b, v => v = .bool b
 | .str l, v => ∃ s : ByteArray, v = .string s ∧ s.data.toList = l
 | .nilp, v => v = .pointer none
 | .ptr i e o, v => e ≤ E.ep i ∧ E.ι i ≠ none ∧ (∃ x, v = .pointer (some x)) ∧ (e = E.ep i → ∃ b s, E.ι i = some (b, s) ∧ v = .pointer (some ⟨b, o, none⟩))
 | .rop c, v => ∃ b o vs, v = .pointer (some ⟨b, o, none⟩) ∧ E.at_ b o vs ∧ relC E c vs
 | .sl nil n sz c full, v => if nil = true then v = .slice none 0 0 ∧ n = 0 ∧ relC E c []
    else ∃ a cap vs, v = .slice (some a) n cap ∧ n ≤ cap ∧ (full = true → cap = n) ∧ (vs = [] ∨ ∃ b o, a = ⟨b, o, none⟩ ∧ E.at_ b o vs) ∧ vs.length = n * sz ∧ relC E c vs
 | .ms nil i e o n sz, v => if nil = true then v = .slice none 0 0 ∧ n = 0
    else e ≤ E.ep i ∧ E.ι i ≠ none ∧ ∃ a cap, v = .slice (some a) n cap ∧ n ≤ cap ∧ (e = E.ep i → ∃ b s, E.ι i = some (b, s) ∧ (cap = 0 ∨ a = ⟨b, o, none⟩) ∧ o + cap * sz ≤ s)
 | .agg l, v => ∃ vs : Array Value, v = .agg vs ∧ relL E l vs.toList ∧ ones vs.toList
 | .ab l, v => ∃ vs : Array Value, v = .agg vs ∧ vs.toList = l.map u8v
 | .ai l, v => ∃ vs : Array Value, v = .agg vs ∧ vs.toList = l.map intv
 | .au l, v => ∃ vs : Array Value, v = .agg vs ∧ vs.toList = l.map u32v
 | .tup l, v => ∃ vs : Array Value, v = .tuple vs ∧ relL E l vs.toList
 | .fn f cap, v => ∃ vs : Array Value, v = .func (.func f) #[] vs ∧ relL E cap vs.toList
 | .bf f fs, v => ∃ vs : Array Value, v = .func (.func f) vs #[] ∧ relL E fs vs.toList
 | .yl l, v => v = .func (.yield l) #[] #[]
 | .nilf, v => v = .nilFunc
 | .iface t a, v => ∃ u, v = .iface t u ∧ rel E a u
 | .nili, v => v = .nilIface
 | .rw _ _ _, _ => False
 | .pel i e k j sz, v => e ≤ E.ep i ∧ E.ι i ≠ none ∧ (∃ x, v = .pointer (some x)) ∧ (e = E.ep i → ∃ b s, E.ι i = some (b, s) ∧ v = .pointer (some ⟨b, k * sz + j, none⟩))
 | .ob nil l, v => relO8 E nil l v
 | .wsl n, v => relW E n v
 | .wp, v => ∃ b o, v = .pointer (some ⟨b, o, none⟩) ∧ o < E.wl b
 | .w8, v => ∃ x, v = u8v x
def relL (E : Env) : List AV → List Value → Prop
 | [], vs => vs = []
 | a :: l, vs => ∃ u us, vs = u :: us ∧ rel E a u ∧ relL E l us
def relC (E : Env) : AV → List Value → Prop
 | .agg l, vs => relL E l vs ∧ ones vs
 | .ab l, vs => vs = l.map u8v
 | .ai l, vs => vs = l.map intv
 | .au l, vs => vs = l.map u32v
 | .rw n sz f, vs => relFL E (flatF sz f n) vs ∧ ones vs
 | _, _ => False
end

theorem relL_iff {E : Env} : ∀ {l : List AV} {vs : List Value}, relL E l vs ↔ vs.length = l.length ∧ ∀ i (h : i < l.length) (h' : i < vs.length), rel E l[i] vs[i]
 | [], vs => by simp only [relL, List.length_nil, List.length_eq_zero_iff]; exact ⟨fun h => ⟨h, fun i h => by omega⟩, fun h => h.1⟩
 | a :: l, vs => by
   simp only [relL]
   constructor
   ·rintro ⟨u, us, rfl, hu, hl⟩
    obtain ⟨h1, h2⟩ := relL_iff.1 hl
    refine ⟨by simp [h1], fun i h h' => ?_⟩
    cases i with
    | zero => exact hu
    | succ i => simp only [List.getElem_cons_succ]; exact h2 i _ _
   ·rintro ⟨h1, h2⟩
    cases vs with
    | nil => simp at h1
    | cons u us =>
      refine ⟨u, us, rfl, h2 0 (by simp) (by simp), relL_iff.2 ⟨by simpa using h1, fun i h h' => ?_⟩⟩
      have := h2 (i + 1) (by simp; omega) (by simp; omega)
      simpa using this

theorem relL_length {E : Env} {l : List AV} {vs : List Value} (h : relL E l vs) : vs.length = l.length := (relL_iff.1 h).1

structure Env.le (E E' : Env) : Prop where
 p : ∀ b cs, E.p b = some cs → E'.p b = some cs
 ι : ∀ i, E.ι i ≠ none → (E'.ep i = E.ep i ∧ E'.ι i = E.ι i) ∨ (E.ep i < E'.ep i ∧ E'.ι i ≠ none)
 ow : ∀ b, E.ow b → E'.ow b
 wl : ∀ b, E.wl b ≠ 0 → E'.wl b = E.wl b

theorem Env.le.refl (E : Env) : E.le E := ⟨fun _ _ h => h, fun _ _ => .inl ⟨rfl, rfl⟩, fun _ h => h, fun _ _ => rfl⟩
theorem Env.le.trans {A B C : Env} (h : A.le B) (k : B.le C) : A.le C :=
 ⟨fun b cs hb => k.p b cs (h.p b cs hb), fun i hi => by
   rcases h.ι i hi with ⟨a1, a2⟩ | ⟨a1, a2⟩
   ·have hB : B.ι i ≠ none := by rw [a2]; exact hi
    rcases k.ι i hB with ⟨b1, b2⟩ | ⟨b1, b2⟩
    ·exact .inl ⟨b1.trans a1, b2.trans a2⟩
    ·exact .inr ⟨by omega, b2⟩
   ·rcases k.ι i a2 with ⟨b1, b2⟩ | ⟨b1, b2⟩
    ·exact .inr ⟨by omega, by rw [b2]; exact a2⟩
    ·exact .inr ⟨by omega, b2⟩, fun b hb => k.ow b (h.ow b hb), fun b hb => by rw [k.wl b (by rw [h.wl b hb]; exact hb), h.wl b hb]⟩

theorem Env.at_.mono {E E' : Env} (h : E.le E') {b o : Nat} {vs : List Value} (k : E.at_ b o vs) : E'.at_ b o vs := by
 obtain ⟨cs, pre, post, h1, h2, h3⟩ := k
 exact ⟨cs, pre, post, h.p _ _ h1, h2, h3⟩

theorem relO8.mono {E E' : Env} (h : E.le E') {nil : Bool} {l : List UInt8} {v : Value} (k : relO8 E nil l v) : relO8 E' nil l v := by
 unfold relO8 at k ⊢
 split
 ·rename_i hn; rw [if_pos hn] at k; exact k
 ·rename_i hn; rw [if_neg hn] at k
  obtain ⟨a, cap, vs, h1, h2, h3, h4⟩ := k
  exact ⟨a, cap, vs, h1, h2, h3.imp id (fun ⟨b, x, y, z⟩ => ⟨b, x, y.mono h, h.ow b z⟩), h4⟩
theorem relW.mono {E E' : Env} (h : E.le E') {n : Nat} {v : Value} (k : relW E n v) : relW E' n v := by
 rcases k with k | ⟨a, cap, h1, h2, h3⟩
 ·exact .inl k
 ·refine .inr ⟨a, cap, h1, h2, ?_⟩
  rcases h3 with h3 | ⟨b, o, x, y⟩
  ·exact .inl h3
  ·by_cases h0 : E.wl b = 0
   ·left; omega
   ·exact .inr ⟨b, o, x, by rw [h.wl b h0]; exact y⟩
theorem relF.mono {E E' : Env} (h : E.le E') : ∀ {x : FV} {v : Value}, relF E x v → relF E' x v
 | .y nil l, v, k => by
   simp only [relF] at k ⊢
   split
   ·rename_i hn; rw [if_pos hn] at k; exact k
   ·rename_i hn; rw [if_neg hn] at k
    obtain ⟨a, cap, vs, h1, h2, h3, h4⟩ := k
    exact ⟨a, cap, vs, h1, h2, h3.imp id (fun ⟨b, o, x, y⟩ => ⟨b, o, x, y.mono h⟩), h4⟩
 | .yo _ _, _, k => by simp only [relF] at k ⊢; exact k.mono h
 | .wy _, _, k => by simp only [relF] at k ⊢; exact k.mono h
 | .s _, _, k | .b _, _, k | .i _, _, k | .w _, _, k | .c _, _, k => by simp only [relF] at k ⊢; exact k
theorem relFL.mono {E E' : Env} (h : E.le E') : ∀ {l : List FV} {vs : List Value}, relFL E l vs → relFL E' l vs
 | [], _, k => by simp only [relFL] at k ⊢; exact k
 | x :: l, _, k => by
   simp only [relFL] at k ⊢
   obtain ⟨u, us, h1, h2, h3⟩ := k
   exact ⟨u, us, h1, h2.mono h, relFL.mono h h3⟩
theorem relF.ofP {E E' : Env} (h : E'.p = E.p) (ho : E'.ow = E.ow) (hw : E'.wl = E.wl) : ∀ {x : FV} {v : Value}, relF E x v → relF E' x v
 | .y nil l, v, k => by
   simp only [relF, Env.at_] at k ⊢
   rw [h]; exact k
 | .yo _ _, _, k => by simp only [relF, relO8, Env.at_] at k ⊢; rw [h, ho]; exact k
 | .wy _, _, k => by simp only [relF, relW] at k ⊢; rw [hw]; exact k
 | .s _, _, k | .b _, _, k | .i _, _, k | .w _, _, k | .c _, _, k => by simp only [relF] at k ⊢; exact k
theorem relFL.ofP {E E' : Env} (h : E'.p = E.p) (ho : E'.ow = E.ow) (hw : E'.wl = E.wl) : ∀ {l : List FV} {vs : List Value}, relFL E l vs → relFL E' l vs
 | [], _, k => by simp only [relFL] at k ⊢; exact k
 | x :: l, _, k => by
   simp only [relFL] at k ⊢
   obtain ⟨u, us, h1, h2, h3⟩ := k
   exact ⟨u, us, h1, h2.ofP h ho hw, relFL.ofP h ho hw h3⟩

mutual
theorem rel.mono {E E' : Env} (h : E.le E') : ∀ (A : AV) (v : Value), rel E A v → rel E' A v
 | .any, _, _ => by simp only [rel]
 | .undef, _, k => by simp only [rel] at k ⊢; exact k
 | .int _, _, k => by simp only [rel] at k ⊢; exact k
 | .u8 _, _, k => by simp only [rel] at k ⊢; exact k
 | .u32 _, _, k => by simp only [rel] at k ⊢; exact k
 | .u64 _, _, k => by simp only [rel] at k ⊢; exact k
 | .bool _, _, k => by simp only [rel] at k ⊢; exact k
 | .str _, _, k => by simp only [rel] at k ⊢; exact k
 | .nilp, _, k => by simp only [rel] at k ⊢; exact k
 | .ptr i e o, v, k => by
   simp only [rel] at k ⊢
   obtain ⟨h1, h2, h0, h3⟩ := k
   rcases h.ι i h2 with ⟨a1, a2⟩ | ⟨a1, a2⟩
   ·rw [a1, a2]; exact ⟨h1, h2, h0, h3⟩
   ·exact ⟨by omega, a2, h0, fun e => by omega⟩
 | .rop c, v, k => by
   simp only [rel] at k ⊢
   obtain ⟨b, o, vs, h1, h2, h3⟩ := k
   exact ⟨b, o, vs, h1, h2.mono h, relC.mono h c vs h3⟩
 | .sl nil n sz c full, v, k => by
   simp only [rel] at k ⊢
   split
   ·rename_i hn; rw [if_pos hn] at k; exact ⟨k.1, k.2.1, relC.mono h c [] k.2.2⟩
   ·rename_i hn; rw [if_neg hn] at k
    obtain ⟨a, cap, vs, h1, h2, h3, h4, h5, h6⟩ := k
    exact ⟨a, cap, vs, h1, h2, h3, h4.imp id (fun ⟨b, o, x, y⟩ => ⟨b, o, x, y.mono h⟩), h5, relC.mono h c vs h6⟩
 | .ms nil i e o n sz, v, k => by
   simp only [rel] at k ⊢
   split
   ·rename_i hn; rw [if_pos hn] at k; exact k
   ·rename_i hn; rw [if_neg hn] at k
    obtain ⟨h1, h2, a, cap, h3, h4, h5⟩ := k
    rcases h.ι i h2 with ⟨a1, a2⟩ | ⟨a1, a2⟩
    ·rw [a1, a2]; exact ⟨h1, h2, a, cap, h3, h4, h5⟩
    ·exact ⟨by omega, a2, a, cap, h3, h4, fun e => by omega⟩
 | .agg l, v, k => by
   simp only [rel] at k ⊢
   obtain ⟨vs, h1, h2, h3⟩ := k
   exact ⟨vs, h1, relL.mono h l _ h2, h3⟩
 | .ab l, v, k => by simp only [rel] at k ⊢; exact k
 | .ai l, v, k => by simp only [rel] at k ⊢; exact k
 | .au l, v, k => by simp only [rel] at k ⊢; exact k
 | .tup l, v, k => by
   simp only [rel] at k ⊢
   obtain ⟨vs, h1, h2⟩ := k
   exact ⟨vs, h1, relL.mono h l _ h2⟩
 | .fn f cap, v, k => by
   simp only [rel] at k ⊢
   obtain ⟨vs, h1, h2⟩ := k
   exact ⟨vs, h1, relL.mono h cap _ h2⟩
 | .bf f cap, v, k => by
   simp only [rel] at k ⊢
   obtain ⟨vs, h1, h2⟩ := k
   exact ⟨vs, h1, relL.mono h cap _ h2⟩
 | .yl _, _, k => by simp only [rel] at k ⊢; exact k
 | .nilf, _, k => by simp only [rel] at k ⊢; exact k
 | .iface t a, v, k => by
   simp only [rel] at k ⊢
   obtain ⟨u, h1, h2⟩ := k
   exact ⟨u, h1, rel.mono h a u h2⟩
 | .nili, _, k => by simp only [rel] at k ⊢; exact k
 | .rw _ _ _, _, k => by simp only [rel] at k
 | .pel i e o _ _, v, k => by
   simp only [rel] at k ⊢
   obtain ⟨h1, h2, h0, h3⟩ := k
   rcases h.ι i h2 with ⟨a1, a2⟩ | ⟨a1, a2⟩
   ·rw [a1, a2]; exact ⟨h1, h2, h0, h3⟩
   ·exact ⟨by omega, a2, h0, fun e => by omega⟩
 | .ob _ _, _, k => by simp only [rel] at k ⊢; exact k.mono h
 | .wsl _, _, k => by simp only [rel] at k ⊢; exact k.mono h
 | .wp, _, k => by
   simp only [rel] at k ⊢
   obtain ⟨b, o, h1, h2⟩ := k
   exact ⟨b, o, h1, by rw [h.wl b (by omega)]; exact h2⟩
 | .w8, _, k => by simp only [rel] at k ⊢; exact k
theorem relL.mono {E E' : Env} (h : E.le E') : ∀ (l : List AV) (vs : List Value), relL E l vs → relL E' l vs
 | [], _, k => by simp only [relL] at k ⊢; exact k
 | a :: l, _, k => by
   simp only [relL] at k ⊢
   obtain ⟨u, us, h1, h2, h3⟩ := k
   exact ⟨u, us, h1, rel.mono h a u h2, relL.mono h l us h3⟩
theorem relC.mono {E E' : Env} (h : E.le E') : ∀ (A : AV) (vs : List Value), relC E A vs → relC E' A vs
 | .agg l, vs, k => by simp only [relC] at k ⊢; exact ⟨relL.mono h l vs k.1, k.2⟩
 | .ab _, _, k => by simp only [relC] at k ⊢; exact k
 | .ai _, _, k => by simp only [relC] at k ⊢; exact k
 | .au _, _, k => by simp only [relC] at k ⊢; exact k
 | .rw _ _ _, _, k => by simp only [relC] at k ⊢; exact ⟨k.1.mono h, k.2⟩
 | .ob _ _, _, k | .wsl _, _, k | .wp, _, k | .w8, _, k
 | .pel _ _ _ _ _, _, k | .any, _, k | .undef, _, k | .int _, _, k | .u8 _, _, k | .u32 _, _, k | .u64 _, _, k | .bool _, _, k | .str _, _, k | .nilp, _, k | .ptr _ _ _, _, k | .rop _, _, k
 | .sl _ _ _ _ _, _, k | .ms _ _ _ _ _ _, _, k | .tup _, _, k | .fn _ _, _, k | .bf _ _, _, k | .yl _, _, k | .nilf, _, k | .iface _ _, _, k | .nili, _, k => by simp only [relC] at k
end

def FV.A : FV → AV
 | .y z1 z2 => .sl z1 z2.length 1 (.ab z2) false
 | .s z1 => .str z1
 | .b z1 => .bool z1
 | .i z1 => .int z1
 | .w z1 => .u32 z1
 | .c z1 => .u8 z1
 | .yo z1 z2 => .ob z1 z2
 | .wy z1 => .wsl z1
def mapA : List FV → List AV
 | [] => []
 | x :: l => x.A :: mapA l
theorem mapA_eq (l : List FV) : mapA l = l.map FV.A := by
 induction l with
 | nil => rfl
 | cons x l ih => simp [mapA, ih]
theorem relF_A {E : Env} {x : FV} {v : Value} : rel E x.A v ↔ relF E x v := by
 cases x with
 | y nil l =>
   simp only [FV.A, rel, relF, relC]
   split
   ·constructor
    ·rintro ⟨h1, h2, h3⟩; exact ⟨h1, List.eq_nil_of_length_eq_zero h2⟩
    ·rintro ⟨h1, rfl⟩; exact ⟨h1, rfl, rfl⟩
   ·constructor
    ·rintro ⟨a, cap, vs, h1, h2, h3, h4, h5, h6⟩; exact ⟨a, cap, vs, h1, h2, h4, h6⟩
    ·rintro ⟨a, cap, vs, h1, h2, h4, h6⟩; exact ⟨a, cap, vs, h1, h2, (fun e => by cases e), h4, by rw [h6]; simp, h6⟩
 | _ => simp only [FV.A, rel, relF]
theorem relFL_A {E : Env} : ∀ {l : List FV} {vs : List Value}, relL E (l.map FV.A) vs ↔ relFL E l vs
 | [], vs => by simp only [List.map_nil, relL, relFL]
 | x :: l, vs => by
   simp only [List.map_cons, relL, relFL]
   exact exists_congr fun u => exists_congr fun us => and_congr_right fun _ => and_congr relF_A relFL_A
theorem normF_len : ∀ (n : Nat) (l : List FV), (normF n l).length = n
 | 0, _ => rfl
 | n + 1, [] => by simp [normF, normF_len n]
 | n + 1, x :: l => by simp [normF, normF_len n]
theorem flatF_len (sz : Nat) (f : Nat → List FV) : ∀ n, (flatF sz f n).length = n * sz
 | 0 => by simp [flatF]
 | n + 1 => by simp [flatF, flatF_len sz f n, normF_len, Nat.succ_mul]
theorem flatF_take (sz : Nat) (f : Nat → List FV) {k : Nat} : ∀ {n : Nat}, k < n → ((flatF sz f n).drop (k * sz)).take sz = normF sz (f k)
 | n + 1, h => by
   have hl := flatF_len sz f n
   rw [flatF]
   rcases Nat.lt_or_ge k n with hk | hk
   ·have hle : (k + 1) * sz ≤ n * sz := Nat.mul_le_mul_right _ hk
    rw [Nat.succ_mul] at hle
    rw [List.drop_append_of_le_length (by omega), List.take_append_of_le_length (by rw [List.length_drop]; omega)]
    exact flatF_take sz f hk
   ·obtain rfl : k = n := by omega
    rw [List.drop_append, List.drop_of_length_le (by omega), hl, Nat.sub_self, List.nil_append, List.drop_zero]
    exact List.take_of_length_le (by rw [normF_len]; exact Nat.le_refl _)
theorem flatF_get (sz : Nat) (f : Nat → List FV) {n k j : Nat} (h : k < n) (hj : j < sz) : (flatF sz f n)[k * sz + j]? = (normF sz (f k))[j]? := by
 rw [← flatF_take sz f h, List.getElem?_take, if_pos hj, List.getElem?_drop]
theorem flatF_congr (sz : Nat) {f g : Nat → List FV} : ∀ {n : Nat}, (∀ k, k < n → normF sz (f k) = normF sz (g k)) → flatF sz f n = flatF sz g n
 | 0, _ => rfl
 | n + 1, h => by rw [flatF, flatF, flatF_congr sz (n := n) (fun k hk => h k (by omega)), h n (by omega)]

def lget : List AV → Nat → Option AV
 | [], _ => none
 | a :: _, 0 => some a
 | _ :: l, n + 1 => lget l n
def ldrop : List AV → Nat → List AV
 | l, 0 => l
 | [], _ + 1 => []
 | _ :: l, n + 1 => ldrop l n
def ltake : List AV → Nat → Option (List AV)
 | _, 0 => some []
 | [], _ + 1 => none
 | a :: l, n + 1 => match ltake l n with | some m => some (a :: m) | none => none
def lset : List AV → Nat → AV → List AV
 | [], _, _ => []
 | _ :: l, 0, v => v :: l
 | a :: l, n + 1, v => a :: lset l n v
def lapp : List AV → List AV → List AV
 | [], m => m
 | a :: l, m => a :: lapp l m
def lput : List AV → Nat → List AV → Option (List AV)
 | l, 0, [] => some l
 | _ :: l, 0, b :: m => match lput l 0 m with | some r => some (b :: r) | none => none
 | a :: l, n + 1, m => match lput l n m with | some r => some (a :: r) | none => none
 | [], _, _ => none
def llen : List AV → Nat
 | [] => 0
 | _ :: l => llen l + 1
def lrep : Nat → List AV → List AV
 | 0, _ => []
 | n + 1, z => lapp z (lrep n z)

theorem lget_eq : ∀ (l : List AV) (n : Nat), lget l n = l[n]?
 | [], _ => by simp [lget]
 | _ :: _, 0 => by simp [lget]
 | _ :: l, n + 1 => by simp [lget, lget_eq l n]
theorem ldrop_eq : ∀ (l : List AV) (n : Nat), ldrop l n = l.drop n
 | [], 0 => rfl
 | [], _ + 1 => rfl
 | _ :: _, 0 => rfl
 | _ :: l, n + 1 => by simp [ldrop, ldrop_eq l n]
theorem ltake_eq : ∀ (l : List AV) (n : Nat) (m : List AV), ltake l n = some m → m = l.take n ∧ n ≤ l.length
 | [], 0, m, h => by simp [ltake] at h; simp [h]
 | _ :: _, 0, m, h => by simp [ltake] at h; simp [h]
 | [], n + 1, m, h => by simp [ltake] at h
 | a :: l, n + 1, m, h => by
   simp only [ltake] at h
   split at h
   ·rename_i m' hm
    obtain ⟨h1, h2⟩ := ltake_eq l n m' hm
    cases h; simp [h1]; exact h2
   ·cases h
theorem lset_eq : ∀ (l : List AV) (n : Nat) (v : AV), lset l n v = l.set n v
 | [], _, _ => by simp [lset]
 | _ :: _, 0, _ => by simp [lset]
 | _ :: l, n + 1, v => by simp [lset, lset_eq l n v]
theorem lapp_eq : ∀ (l m : List AV), lapp l m = l ++ m
 | [], _ => rfl
 | a :: l, m => by simp [lapp, lapp_eq l m]
theorem llen_eq : ∀ l : List AV, llen l = l.length
 | [] => rfl
 | _ :: l => by simp [llen, llen_eq l]
theorem lput_eq : ∀ (l : List AV) (n : Nat) (m r : List AV), lput l n m = some r → n + m.length ≤ l.length ∧ r = l.take n ++ m ++ l.drop (n + m.length)
 | l, 0, [], r, h => by cases l <;> (simp [lput] at h; subst h; simp)
 | a :: l, 0, b :: m, r, h => by
   simp only [lput] at h
   split at h
   ·rename_i r' hr
    obtain ⟨h1, h2⟩ := lput_eq l 0 m r' hr
    cases h
    simp at h1 h2 ⊢
    exact ⟨h1, h2⟩
   ·cases h
 | a :: l, n + 1, m, r, h => by
   cases m with
   | nil =>
     simp only [lput] at h
     split at h
     ·rename_i r' hr
      obtain ⟨h1, h2⟩ := lput_eq l n [] r' hr
      cases h
      simp at h1 h2 ⊢
      exact ⟨h1, h2⟩
     ·cases h
   | cons b m =>
     simp only [lput] at h
     split at h
     ·rename_i r' hr
      obtain ⟨h1, h2⟩ := lput_eq l n (b :: m) r' hr
      cases h
      refine ⟨by simp at h1 ⊢; omega, ?_⟩
      rw [h2, show n + 1 + (b :: m).length = (n + (b :: m).length) + 1 from by omega]
      rfl
     ·cases h
 | [], 0, _ :: _, _, h => by simp [lput] at h
 | [], _ + 1, [], _, h => by simp [lput] at h
 | [], _ + 1, _ :: _, _, h => by simp [lput] at h

def holds : Option Prop → Prop
 | none => True
 | some C => C

def cells : AV → List AV
 | .agg l => l
 | .ab l => l.map .u8
 | .ai l => l.map .int
 | .au l => l.map .u32
 | .rw n sz f => (flatF sz f n).map FV.A
 | _ => []
def isC : AV → Bool
 | .agg _ | .ab _ | .ai _ | .au _ | .rw _ _ _ => true
 | _ => false

theorem relL_map {α : Type} {E : Env} (f : α → AV) (g : α → Value) (h : ∀ x u, rel E (f x) u ↔ u = g x) : ∀ (l : List α) (vs : List Value), relL E (l.map f) vs ↔ vs = l.map g
 | [], vs => by simp [relL]
 | x :: l, vs => by
   simp only [List.map_cons, relL]
   constructor
   ·rintro ⟨u, us, rfl, hu, hl⟩
    rw [(h x u).1 hu, (relL_map f g h l us).1 hl]
   ·rintro rfl
    exact ⟨_, _, rfl, (h x _).2 rfl, (relL_map f g h l _).2 rfl⟩

theorem ones_map {α : Type} (g : α → Value) (h : ∀ x, (g x).oneCell' = true) (l : List α) : ones (l.map g) := by
 intro u hu
 obtain ⟨x, _, rfl⟩ := List.mem_map.1 hu
 exact h x

theorem relC_iff {E : Env} {c : AV} {vs : List Value} : relC E c vs ↔ isC c = true ∧ relL E (cells c) vs ∧ ones vs := by
 cases c <;> simp only [relC, isC, cells, true_and, Bool.false_eq_true, false_and]
 ·rw [relL_map .u8 u8v (fun x u => by simp only [rel])]; exact ⟨fun h => ⟨h, by rw [h]; exact ones_map _ (fun _ => rfl) _⟩, fun h => h.1⟩
 ·rw [relL_map .int intv (fun x u => by simp only [rel])]; exact ⟨fun h => ⟨h, by rw [h]; exact ones_map _ (fun _ => rfl) _⟩, fun h => h.1⟩
 ·rw [relL_map .u32 u32v (fun x u => by simp only [rel])]; exact ⟨fun h => ⟨h, by rw [h]; exact ones_map _ (fun _ => rfl) _⟩, fun h => h.1⟩
 ·rw [relFL_A]

def clen : AV → Nat
 | .agg l => llen l
 | .ab l => l.length
 | .ai l => l.length
 | .au l => l.length
 | .rw n sz _ => n * sz
 | _ => 0
theorem clen_eq (c : AV) : clen c = (cells c).length := by cases c <;> simp [clen, cells, llen_eq, flatF_len]
theorem relC_length {E : Env} {c : AV} {vs : List Value} (h : relC E c vs) : vs.length = clen c := by
 rw [clen_eq]; exact relL_length (relC_iff.1 h).2.1

def cget (c : AV) (o : Nat) : Option (Option Prop × AV) :=
 match c with
 | .agg l => match lget l o with | some v => some (none, v) | none => none
 | .ab l => some (some (o < l.length), .u8 (l.getD o 0))
 | .ai l => some (some (o < l.length), .int (l.getD o 0))
 | .au l => some (some (o < l.length), .u32 (l.getD o 0))
 | _ => none
theorem cget_ok {c : AV} {o : Nat} {C : Option Prop} {v : AV} (h : cget c o = some (C, v)) (hC : holds C) : (cells c)[o]? = some v := by
 cases c <;> simp only [cget, Option.some.injEq, Prod.mk.injEq, reduceCtorEq] at h
 ·split at h
  ·rename_i l v' hv
   cases h
   rw [← lget_eq]; exact hv
  ·cases h
 all_goals
  obtain ⟨rfl, rfl⟩ := h
  simp only [holds] at hC
  simp [cells, List.getD_eq_getElem?_getD, List.getElem?_eq_getElem hC]

def csub (c : AV) (o n : Nat) : Option (Option Prop × AV) :=
 match c with
 | .agg l => match ltake (ldrop l o) n with | some m => some (none, .agg m) | none => none
 | .ab l => some (some (o + n ≤ l.length), .ab ((l.drop o).take n))
 | .ai l => some (some (o + n ≤ l.length), .ai ((l.drop o).take n))
 | .au l => some (some (o + n ≤ l.length), .au ((l.drop o).take n))
 | .rw m sz f => match Nat.beq o 0 with | true => some (some (n = m * sz), .rw m sz f) | false => none
 | _ => none
theorem csub_ok {c : AV} {o n : Nat} {C : Option Prop} {v : AV} (h : csub c o n = some (C, v)) (hC : holds C) :
  isC v = true ∧ cells v = ((cells c).drop o).take n ∧ (0 < n → o + n ≤ (cells c).length) := by
 cases c <;> simp only [csub, Option.some.injEq, Prod.mk.injEq, reduceCtorEq] at h
 ·split at h
  ·rename_i l m hm
   cases h
   obtain ⟨h1, h2⟩ := ltake_eq _ _ _ hm
   rw [ldrop_eq] at h1 h2
   simp only [isC, cells, h1, true_and]
   simp only [List.length_drop] at h2
   omega
  ·cases h
 case rw m sz f =>
  split at h
  ·rename_i hb
   cases h
   obtain rfl := Nat.eq_of_beq_eq_true hb
   simp only [holds] at hC
   subst hC
   refine ⟨rfl, ?_, fun _ => by simp [cells, flatF_len]⟩
   rw [List.drop_zero, List.take_of_length_le (by simp [cells, flatF_len])]
  ·cases h
 all_goals
  obtain ⟨rfl, rfl⟩ := h
  simp only [isC, cells, List.map_drop, List.map_take, List.length_map, true_and]
  exact fun _ => hC

def exU8 (l : List UInt8) : Nat → Nat → List AV
 | _, 0 => []
 | o, n + 1 => .u8 (l.getD o 0) :: exU8 l (o + 1) n
def exU32 (l : List UInt32) : Nat → Nat → List AV
 | _, 0 => []
 | o, n + 1 => .u32 (l.getD o 0) :: exU32 l (o + 1) n
def exInt (l : List Int) : Nat → Nat → List AV
 | _, 0 => []
 | o, n + 1 => .int (l.getD o 0) :: exInt l (o + 1) n
def cexp (c : AV) (o n : Nat) : Option (Option Prop × AV) :=
 match c with
 | .agg l => match ltake (ldrop l o) n with | some m => some (none, .agg m) | none => none
 | .ab l => some (some (o + n ≤ l.length), .agg (exU8 l o n))
 | .ai l => some (some (o + n ≤ l.length), .agg (exInt l o n))
 | .au l => some (some (o + n ≤ l.length), .agg (exU32 l o n))
 | _ => none
theorem exU8_eq (l : List UInt8) : ∀ (n o : Nat), o + n ≤ l.length → exU8 l o n = ((l.map AV.u8).drop o).take n
 | 0, o, _ => by simp [exU8]
 | n + 1, o, h => by
   rw [List.drop_eq_getElem_cons (by simp; omega), List.take_succ_cons, exU8, exU8_eq l n (o + 1) (by omega)]
   simp [List.getD, show o < l.length by omega]
theorem exU32_eq (l : List UInt32) : ∀ (n o : Nat), o + n ≤ l.length → exU32 l o n = ((l.map AV.u32).drop o).take n
 | 0, o, _ => by simp [exU32]
 | n + 1, o, h => by
   rw [List.drop_eq_getElem_cons (by simp; omega), List.take_succ_cons, exU32, exU32_eq l n (o + 1) (by omega)]
   simp [List.getD, show o < l.length by omega]
theorem exInt_eq (l : List Int) : ∀ (n o : Nat), o + n ≤ l.length → exInt l o n = ((l.map AV.int).drop o).take n
 | 0, o, _ => by simp [exInt]
 | n + 1, o, h => by
   rw [List.drop_eq_getElem_cons (by simp; omega), List.take_succ_cons, exInt, exInt_eq l n (o + 1) (by omega)]
   simp [List.getD, show o < l.length by omega]
theorem cexp_ok {c : AV} {o n : Nat} {C : Option Prop} {v : AV} (h : cexp c o n = some (C, v)) (hC : holds C) :
  isC v = true ∧ cells v = ((cells c).drop o).take n ∧ (0 < n → o + n ≤ (cells c).length) := by
 cases c <;> simp only [cexp, Option.some.injEq, Prod.mk.injEq, reduceCtorEq] at h
 ·split at h
  ·rename_i l m hm
   cases h
   obtain ⟨h1, h2⟩ := ltake_eq _ _ _ hm
   rw [ldrop_eq] at h1 h2
   simp only [isC, cells, h1, true_and]
   simp only [List.length_drop] at h2
   omega
  ·cases h
 ·obtain ⟨rfl, rfl⟩ := h
  simp only [holds] at hC
  exact ⟨rfl, by simp only [cells]; exact exU8_eq _ n o hC, fun _ => by simp only [cells, List.length_map]; exact hC⟩
 ·obtain ⟨rfl, rfl⟩ := h
  simp only [holds] at hC
  exact ⟨rfl, by simp only [cells]; exact exInt_eq _ n o hC, fun _ => by simp only [cells, List.length_map]; exact hC⟩
 ·obtain ⟨rfl, rfl⟩ := h
  simp only [holds] at hC
  exact ⟨rfl, by simp only [cells]; exact exU32_eq _ n o hC, fun _ => by simp only [cells, List.length_map]; exact hC⟩

def cset (c : AV) (o : Nat) (v : AV) : Option (Option Prop × AV) :=
 match c, v with
 | .agg l, v => match lget l o with | some _ => some (none, .agg (lset l o v)) | none => none
 | .ab l, .u8 x => some (some (o < l.length), .ab (l.set o x))
 | .ai l, .int x => some (some (o < l.length), .ai (l.set o x))
 | .au l, .u32 x => some (some (o < l.length), .au (l.set o x))
 | _, _ => none
theorem cset_ok {c : AV} {o : Nat} {C : Option Prop} {v c' : AV} (h : cset c o v = some (C, c')) (hC : holds C) :
  isC c' = true ∧ cells c' = (cells c).set o v ∧ o < (cells c).length := by
 cases c <;> try (simp only [cset, reduceCtorEq] at h)
 ·split at h
  ·rename_i l v' hv
   cases h
   rw [lget_eq] at hv
   exact ⟨rfl, by simp [cells, lset_eq], by simp only [cells]; exact (List.getElem?_eq_some_iff.1 hv).1⟩
  ·cases h
 all_goals
  cases v <;> simp only [cset, Option.some.injEq, Prod.mk.injEq, reduceCtorEq] at h
  obtain ⟨rfl, rfl⟩ := h
  simp only [isC, cells, List.map_set, List.length_map, true_and]
  exact hC

def cput (c : AV) (o : Nat) (d : AV) : Option (Option Prop × AV) :=
 match c, d with
 | .agg l, .agg m => match lput l o m with | some r => some (none, .agg r) | none => none
 | .au l, .au m => some (some (o + m.length ≤ l.length), .au (l.take o ++ m ++ l.drop (o + m.length)))
 | .ab l, .ab m => some (some (o + m.length ≤ l.length), .ab (l.take o ++ m ++ l.drop (o + m.length)))
 | .agg l, .ab m => match Nat.beq o 0 with | true => some (some (m.length = llen l), .ab m) | false => none
 | _, _ => none
theorem cput_ok {c d : AV} {o : Nat} {C : Option Prop} {c' : AV} (h : cput c o d = some (C, c')) (hC : holds C) :
  isC c' = true ∧ cells c' = (cells c).take o ++ cells d ++ (cells c).drop (o + (cells d).length) ∧ o + (cells d).length ≤ (cells c).length := by
 cases c <;> cases d <;> simp only [cput, reduceCtorEq, Option.some.injEq, Prod.mk.injEq] at h
 ·split at h
  ·rename_i l m r hr
   cases h
   obtain ⟨h1, h2⟩ := lput_eq _ _ _ _ hr
   exact ⟨rfl, by simp [cells, h2], by simpa [cells] using h1⟩
  ·cases h
 ·rename_i l m
  split at h
  ·rename_i hb
   cases h
   obtain rfl := Nat.eq_of_beq_eq_true hb
   have hC : m.length = llen l := hC
   rw [llen_eq] at hC
   refine ⟨rfl, ?_, by simp [cells, hC]⟩
   simp only [cells, List.take_zero, List.nil_append, Nat.zero_add, List.length_map]
   rw [List.drop_of_length_le (by omega), List.append_nil]
  ·cases h
 all_goals
  obtain ⟨rfl, rfl⟩ := h
  simp only [isC, cells, List.map_append, List.map_take, List.map_drop, List.length_map, true_and]
  exact hC

def fvD : AV → Option FV
 | .sl nl n sz (.ab l) _ => match Nat.beq sz 1 with | true => some (.y nl l) | false => none
 | .sl true _ _ (.agg l) _ => match l with | [] => some (.y true []) | _ => none
 | .str l => some (.s l)
 | .bool b => some (.b b)
 | .int n => some (.i n)
 | .u32 x => some (.w x)
 | .u8 x => some (.c x)
 | .ob nl l => some (.yo nl l)
 | .wsl n => some (.wy n)
 | _ => none
def fvDL : List AV → Option (List FV)
 | [] => some []
 | a :: l => match fvD a with | some x => (match fvDL l with | some m => some (x :: m) | none => none) | none => none
theorem fvD_ok {E : Env} {a : AV} {x : FV} (h : fvD a = some x) {v : Value} (r : rel E a v) : relF E x v := by
 unfold fvD at h
 split at h
 ·rename_i nl n sz l fl
  split at h
  ·rename_i hb
   cases h
   obtain rfl := Nat.eq_of_beq_eq_true hb
   simp only [rel, relC] at r
   simp only [relF]
   split at r
   ·rename_i hn
    rw [if_pos hn]
    exact ⟨r.1, by simpa using r.2.2.symm⟩
   ·rename_i hn
    rw [if_neg hn]
    obtain ⟨a', cap, vs, h1, h2, h3, h4, h5, h6⟩ := r
    have : n = l.length := by rw [h6] at h5; simp at h5; omega
    subst this
    exact ⟨a', cap, vs, h1, h2, h4, h6⟩
  ·cases h
 ·split at h
  ·cases h
   simp only [rel, if_true] at r
   simp only [relF, if_true]
   exact ⟨r.1, trivial⟩
  ·cases h
 ·cases h; simpa only [relF, rel] using r
 ·cases h; simpa only [relF, rel] using r
 ·cases h; simpa only [relF, rel] using r
 ·cases h; simpa only [relF, rel] using r
 ·cases h; simpa only [relF, rel] using r
 ·cases h; simpa only [relF, rel] using r
 ·cases h; simpa only [relF, rel] using r
 ·cases h
theorem fvDL_ok {E : Env} : ∀ {l : List AV} {m : List FV}, fvDL l = some m → ∀ {vs : List Value}, relL E l vs → relFL E m vs
 | [], m, h, vs, r => by simp only [fvDL, Option.some.injEq] at h; subst h; simp only [relL] at r; simp only [relFL]; exact r
 | a :: l, m, h, vs, r => by
   simp only [fvDL] at h
   split at h
   ·rename_i x hx
    split at h
    ·rename_i m' hm
     cases h
     simp only [relL] at r
     obtain ⟨u, us, rfl, h1, h2⟩ := r
     simp only [relFL]
     exact ⟨u, us, rfl, fvD_ok hx h1, fvDL_ok hm h2⟩
    ·cases h
   ·cases h
def snocF (f : Nat → List FV) (n : Nat) (xs : List FV) : Nat → List FV := fun i => match Nat.beq i n with | true => xs | false => f i
theorem flatF_snoc (sz : Nat) (f : Nat → List FV) (n : Nat) (xs : List FV) (h : xs.length = sz) : flatF sz (snocF f n xs) (n + 1) = flatF sz f n ++ xs := by
 rw [flatF, flatF_congr sz (g := f) (n := n) (fun k hk => by
  have : Nat.beq k n = false := by cases hb : Nat.beq k n with | false => rfl | true => have := Nat.eq_of_beq_eq_true hb; omega
  simp only [snocF, this])]
 congr 1
 simp only [snocF, Nat.beq_refl]
 subst h
 induction xs with
 | nil => rfl
 | cons x xs ih => simp [normF, ih]
def flen : List FV → Nat
 | [] => 0
 | _ :: l => flen l + 1
theorem flen_eq : ∀ l : List FV, flen l = l.length
 | [] => rfl
 | _ :: l => by simp [flen, flen_eq l]
def capp (c d : AV) : Option AV :=
 match c, d with
 | .agg l, .agg m => some (.agg (lapp l m))
 | .ab l, .ab m => some (.ab (l ++ m))
 | .ai l, .ai m => some (.ai (l ++ m))
 | .au l, .au m => some (.au (l ++ m))
 | .agg [], .ab m => some (.ab m)
 | .agg [], .ai m => some (.ai m)
 | .agg [], .au m => some (.au m)
 | .ab m, .agg [] => some (.ab m)
 | .ai m, .agg [] => some (.ai m)
 | .au m, .agg [] => some (.au m)
 | .rw n sz f, .agg l => match fvDL l with | some xs => (match Nat.beq (flen xs) sz with | true => some (.rw (n + 1) sz (snocF f n xs)) | false => none) | none => none
 | _, _ => none
theorem capp_ok {c d e : AV} (h : capp c d = some e) : (isC e = true ∧ cells e = cells c ++ cells d) ∨ ∃ n sz f l xs, c = .rw n sz f ∧ d = .agg l ∧ fvDL l = some xs ∧ xs.length = sz ∧ e = .rw (n + 1) sz (snocF f n xs) := by
 unfold capp at h
 split at h
 case h_11 n sz f l =>
  split at h
  ·rename_i xs hx
   split at h
   ·rename_i hb
    cases h
    have hl := Nat.eq_of_beq_eq_true hb
    rw [flen_eq] at hl
    exact .inr ⟨n, sz, f, l, xs, rfl, rfl, hx, hl, rfl⟩
   ·cases h
  ·cases h
 all_goals (left; cases h <;> simp [isC, cells, lapp_eq])

def toC : AV → Option AV
 | .any | .undef | .tup _ | .rw _ _ _ => none
 | .agg l => some (.agg l)
 | .ab l => some (.ab l)
 | .ai l => some (.ai l)
 | .au l => some (.au l)
 | v => some (.agg [v])
theorem toC_ok {E : Env} {A c : AV} {v : Value} (h : toC A = some c) (hv : rel E A v) : relC E c v.cells.toList := by
 have one : ∀ u : Value, rel E A u → u.cells = #[u] → u.oneCell' = true → relC E (.agg [A]) u.cells.toList := fun u h1 h2 h3 => by
  rw [h2]; simp only [relC, relL]; exact ⟨⟨u, [], rfl, h1, rfl⟩, fun x hx => by simp at hx; rw [hx]; exact h3⟩
 cases A <;> simp only [toC, reduceCtorEq, Option.some.injEq] at h <;> subst h
 case agg l =>
  simp only [rel] at hv
  obtain ⟨vs, rfl, h1, h2⟩ := hv
  simp only [relC, Value.cells]; exact ⟨h1, h2⟩
 case ab l => simp only [rel] at hv; obtain ⟨vs, rfl, h1⟩ := hv; simp only [relC, Value.cells]; exact h1
 case ai l => simp only [rel] at hv; obtain ⟨vs, rfl, h1⟩ := hv; simp only [relC, Value.cells]; exact h1
 case au l => simp only [rel] at hv; obtain ⟨vs, rfl, h1⟩ := hv; simp only [relC, Value.cells]; exact h1
 case int => simp only [rel] at hv; exact one v (by simp only [rel]; exact hv) (by rw [hv]; rfl) (by rw [hv]; rfl)
 case u8 => simp only [rel] at hv; exact one v (by simp only [rel]; exact hv) (by rw [hv]; rfl) (by rw [hv]; rfl)
 case u32 => simp only [rel] at hv; exact one v (by simp only [rel]; exact hv) (by rw [hv]; rfl) (by rw [hv]; rfl)
 case u64 => simp only [rel] at hv; exact one v (by simp only [rel]; exact hv) (by rw [hv]; rfl) (by rw [hv]; rfl)
 case bool => simp only [rel] at hv; exact one v (by simp only [rel]; exact hv) (by rw [hv]; rfl) (by rw [hv]; rfl)
 case nilp => simp only [rel] at hv; exact one v (by simp only [rel]; exact hv) (by rw [hv]; rfl) (by rw [hv]; rfl)
 case nilf => simp only [rel] at hv; exact one v (by simp only [rel]; exact hv) (by rw [hv]; rfl) (by rw [hv]; rfl)
 case nili => simp only [rel] at hv; exact one v (by simp only [rel]; exact hv) (by rw [hv]; rfl) (by rw [hv]; rfl)
 case str => have k := hv; simp only [rel] at k; obtain ⟨s, e, _⟩ := k; exact one v hv (by rw [e]; rfl) (by rw [e]; rfl)
 case ptr => have k := hv; simp only [rel] at k; obtain ⟨_, _, ⟨s, e⟩, _⟩ := k; exact one v hv (by rw [e]; rfl) (by rw [e]; rfl)
 case pel => have k := hv; simp only [rel] at k; obtain ⟨_, _, ⟨s, e⟩, _⟩ := k; exact one v hv (by rw [e]; rfl) (by rw [e]; rfl)
 case rop => have k := hv; simp only [rel] at k; obtain ⟨_, _, _, e, _⟩ := k; exact one v hv (by rw [e]; rfl) (by rw [e]; rfl)
 case bf => have k := hv; simp only [rel] at k; obtain ⟨s, e, _⟩ := k; exact one v hv (by rw [e]; rfl) (by rw [e]; rfl)
 case yl => simp only [rel] at hv; exact one v (by simp only [rel]; exact hv) (by rw [hv]; rfl) (by rw [hv]; rfl)
 case fn => have k := hv; simp only [rel] at k; obtain ⟨s, e, _⟩ := k; exact one v hv (by rw [e]; rfl) (by rw [e]; rfl)
 case iface => have k := hv; simp only [rel] at k; obtain ⟨s, e, _⟩ := k; exact one v hv (by rw [e]; rfl) (by rw [e]; rfl)
 case ob =>
  have k := hv; simp only [rel, relO8] at k
  split at k
  ·exact one v hv (by rw [k.1]; rfl) (by rw [k.1]; rfl)
  ·obtain ⟨_, _, _, e, _⟩ := k; exact one v hv (by rw [e]; rfl) (by rw [e]; rfl)
 case wsl =>
  have k := hv; simp only [rel, relW] at k
  rcases k with k | ⟨_, _, e, _⟩
  ·exact one v hv (by rw [k.1]; rfl) (by rw [k.1]; rfl)
  ·exact one v hv (by rw [e]; rfl) (by rw [e]; rfl)
 case wp => have k := hv; simp only [rel] at k; obtain ⟨_, _, e, _⟩ := k; exact one v hv (by rw [e]; rfl) (by rw [e]; rfl)
 case w8 => have k := hv; simp only [rel] at k; obtain ⟨_, e⟩ := k; exact one v hv (by rw [e]; rfl) (by rw [e]; rfl)
 case sl =>
  have k := hv; simp only [rel] at k
  split at k
  ·exact one v hv (by rw [k.1]; rfl) (by rw [k.1]; rfl)
  ·obtain ⟨_, _, _, e, _⟩ := k; exact one v hv (by rw [e]; rfl) (by rw [e]; rfl)
 case ms =>
  have k := hv; simp only [rel] at k
  split at k
  ·exact one v hv (by rw [k.1]; rfl) (by rw [k.1]; rfl)
  ·obtain ⟨_, _, _, _, e, _⟩ := k; exact one v hv (by rw [e]; rfl) (by rw [e]; rfl)


structure AO where
 ep : Nat
 c : AV
 fz : Bool
 deriving Inhabited

structure Base where
 w0 : World
 E0 : Env
 M : Nat → Prop
 X : Nat → Option Value
def noX : Nat → Option Value := fun _ => some undef

def okFr (fr : Nat × Nat) (s : Nat) : Prop := fr.1 = fr.2 ∨ s ≤ fr.1
theorem okFr.free {fr : Nat × Nat} {s : Nat} (h : okFr fr s) : ∀ o, o < s → (decide (fr.1 ≤ o) && decide (o < fr.2)) = false := fun o ho => by
 simp only [Bool.and_eq_false_iff, decide_eq_false_iff_not]
 rcases h with h | h <;> omega
def rowO (E : Env) (n0 : Nat) (M : Nat → Prop) (w : World) (c : AV) (b s : Nat) : Prop :=
 ∃ cur T fr vs post, w.heap[b]? = some (.cells cur T fr) ∧ cur.size = s ∧ okFr fr s ∧ cur.toList = vs ++ post ∧ relC E c vs ∧ E.p b = none ∧ (n0 ≤ b ∨ M b)

def relO (E : Env) (n0 : Nat) (M : Nat → Prop) (w : World) (i : Nat) (ob : AO) : Prop :=
 E.ep i = ob.ep ∧ ∃ b s, E.ι i = some (b, s) ∧
  ((s = 0 ∧ relC E ob.c []) ∨ (ob.fz = true ∧ ∃ vs, E.at_ b 0 vs ∧ relC E ob.c vs) ∨ (ob.fz = false ∧ 0 < s ∧ rowO E n0 M w ob.c b s))

def byteN (n : Nat) (cs : Array Value) : Prop := n ≤ cs.size ∧ ∀ k, k < n → ∃ x, cs[k]? = some (u8v x)
structure Xt (B : Base) (E : Env) (h : List AO) (w : World) : Prop where
 ow : ∀ b, E.ow b → (B.E0.ow b ∨ B.w0.heap.size ≤ b ∨ B.M b) ∧ ∃ cs T fr, E.p b = some cs ∧ w.heap[b]? = some (.cells cs T fr) ∧ okFr fr cs.size ∧ byteN 1 cs
 wl : ∀ b, E.wl b ≠ 0 → (B.w0.heap.size ≤ b ∨ B.M b) ∧ (∃ cs T fr, w.heap[b]? = some (.cells cs T fr) ∧ okFr fr cs.size ∧ byteN (E.wl b) cs) ∧ E.p b = none ∧ ∀ i ob b' s, h[i]? = some ob → ob.fz = false → E.ι i = some (b', s) → 0 < s → b' ≠ b
theorem Xt.lt {B : Base} {E : Env} {h : List AO} {w : World} (x : Xt B E h w) {b : Nat} (hb : E.ow b ∨ E.wl b ≠ 0) : b < w.heap.size := by
 rcases hb with hb | hb
 ·obtain ⟨_, cs, T, fr, _, h1, _⟩ := x.ow b hb
  exact (Array.getElem?_eq_some_iff.1 h1).1
 ·obtain ⟨_, ⟨cs, T, fr, h1, _⟩, _⟩ := x.wl b hb
  exact (Array.getElem?_eq_some_iff.1 h1).1
theorem Xt.to {B : Base} {E : Env} {h : List AO} {w : World} (x : Xt B E h w) {E' : Env} {h' : List AO} {w' : World} (ho : E'.ow = E.ow) (hw : E'.wl = E.wl) (hp : ∀ b cs, E.p b = some cs → E'.p b = some cs) (hn : ∀ b, E.wl b ≠ 0 → E.p b = none → E'.p b = none)
  (hh : ∀ b, E.ow b ∨ E.wl b ≠ 0 → w'.heap[b]? = w.heap[b]?) (hob : ∀ b, E.wl b ≠ 0 → ∀ i ob b' s, h'[i]? = some ob → ob.fz = false → E'.ι i = some (b', s) → 0 < s → b' ≠ b) : Xt B E' h' w' := by
 refine ⟨fun b hb => ?_, fun b hb => ?_⟩
 ·rw [ho] at hb
  obtain ⟨h1, cs, T, fr, h2, h3, h4⟩ := x.ow b hb
  exact ⟨h1, cs, T, fr, hp b cs h2, by rw [hh b (.inl hb)]; exact h3, h4⟩
 ·rw [hw] at hb ⊢
  obtain ⟨h1, ⟨cs, T, fr, h2, h3⟩, h4, h5⟩ := x.wl b hb
  exact ⟨h1, ⟨cs, T, fr, by rw [hh b (.inr hb)]; exact h2, h3⟩, hn b hb h4, hob b hb⟩
structure Mem (B : Base) (E : Env) (h : List AO) (w : World) : Prop where
 le : B.E0.le E
 size : B.w0.heap.size ≤ w.heap.size
 os : w.os = B.w0.os
 tape : w.tape = B.w0.tape
 output : w.output = B.w0.output
 keeps : ∀ b, b < B.w0.heap.size → ¬ B.M b → w.heap[b]? = B.w0.heap[b]?
 sat : ∀ b cs, E.p b = some cs → ∃ T fr, w.heap[b]? = some (.cells cs T fr)
 obj : ∀ i ob, h[i]? = some ob → relO E B.w0.heap.size B.M w i ob
 inj : ∀ i j oi oj b s t, h[i]? = some oi → h[j]? = some oj → oi.fz = false → oj.fz = false → E.ι i = some (b, s) → E.ι j = some (b, t) → 0 < s → 0 < t → i = j
 newP : ∀ b, E.p b ≠ none → B.E0.p b ≠ none ∨ B.w0.heap.size ≤ b ∨ B.M b
 fresh : ∀ i, h.length ≤ i → E.ι i = none ∧ E.ep i = 0
 base : ∀ i, h.length ≤ i → B.E0.ι i = none
 xt : Xt B E h w

variable {B : Base} {E : Env} {h : List AO} {w : World}

theorem Mem.block_lt (m : Mem B E h w) {b : Nat} {cs : Array Value} (hb : E.p b = some cs) : b < w.heap.size := by
 obtain ⟨T, fr, h1⟩ := m.sat b cs hb
 exact (Array.getElem?_eq_some_iff.1 h1).1

theorem Mem.same (m : Mem B E h w) {w' : World} (hh : w'.heap = w.heap) (h1 : w'.os = w.os) (h2 : w'.tape = w.tape) (h3 : w'.output = w.output) : Mem B E h w' := by
 refine ⟨m.le, by rw [hh]; exact m.size, h1.trans m.os, h2.trans m.tape, h3.trans m.output, fun b hb hM => by rw [hh]; exact m.keeps b hb hM, fun b cs hb => by rw [hh]; exact m.sat b cs hb,
  fun i ob hi => ?_, m.inj, m.newP, m.fresh, m.base, m.xt.to rfl rfl (fun _ _ h => h) (fun _ _ h => h) (fun b _ => by rw [hh]) fun b hb => (m.xt.wl b hb).2.2.2⟩
 have := m.obj i ob hi
 unfold relO rowO at *
 rw [hh]; exact this

theorem Mem.drew (m : Mem B E h w) : Mem B E h w.drew := m.same rfl rfl rfl rfl

theorem relO.heap {n0 : Nat} {M : Nat → Prop} {w' : World} {i : Nat} {ob : AO} (r : relO E n0 M w i ob) (hh : ∀ b s, E.ι i = some (b, s) → ob.fz = false → 0 < s → b < w.heap.size → w'.heap[b]? = w.heap[b]?) : relO E n0 M w' i ob := by
 obtain ⟨h1, b, s, h2, h3⟩ := r
 refine ⟨h1, b, s, h2, ?_⟩
 rcases h3 with h3 | h3 | ⟨hf, hs, cur, T, fr, vs, post, g1, g2⟩
 ·exact .inl h3
 ·exact .inr (.inl h3)
 ·refine .inr (.inr ⟨hf, hs, cur, T, fr, vs, post, ?_, g2⟩)
  rw [hh b s h2 hf hs (Array.getElem?_eq_some_iff.1 g1).1]; exact g1

theorem relO.mono {n0 : Nat} {M : Nat → Prop} {E' : Env} {i : Nat} {ob : AO} (le : E.le E') (r : relO E n0 M w i ob) (hi : E'.ep i = E.ep i ∧ E'.ι i = E.ι i)
  (hp : ∀ b s, E.ι i = some (b, s) → ob.fz = false → 0 < s → E.p b = none → b < w.heap.size → E'.p b = none) : relO E' n0 M w i ob := by
 obtain ⟨h1, b, s, h2, h3⟩ := r
 refine ⟨hi.1.trans h1, b, s, hi.2.trans h2, ?_⟩
 rcases h3 with ⟨h3, h4⟩ | ⟨hf, vs, h3, h4⟩ | ⟨hf, hs, cur, T, fr, vs, post, g1, g2, g3, g4, g5, g6, g7⟩
 ·exact .inl ⟨h3, relC.mono le _ _ h4⟩
 ·exact .inr (.inl ⟨hf, vs, h3.mono le, relC.mono le _ _ h4⟩)
 ·exact .inr (.inr ⟨hf, hs, cur, T, fr, vs, post, g1, g2, g3, g4, relC.mono le _ _ g5, hp b s h2 hf hs g6 (Array.getElem?_eq_some_iff.1 g1).1, g7⟩)

theorem Mem.at_cell (m : Mem B E h w) {b o : Nat} {vs : List Value} (ha : E.at_ b o vs) {k : Nat} {u : Value} (hu : vs[k]? = some u) : w.cell? ⟨b, o + k, none⟩ = some u := by
 obtain ⟨cs, pre, post, h1, h2, h3⟩ := ha
 obtain ⟨T, fr, h4⟩ := m.sat _ _ h1
 rw [cell_of_row w b (o + k) cs T fr h4, ← Array.getElem?_toList, h2, ← h3]
 rw [List.append_assoc, List.getElem?_append_right (by omega)]
 rw [show pre.length + k - pre.length = k by omega, List.getElem?_append_left (List.getElem?_eq_some_iff.1 hu).1]
 exact hu

theorem Mem.row (m : Mem B E h w) {i : Nat} {ob : AO} (hi : h[i]? = some ob) : ∃ b s vs, E.ι i = some (b, s) ∧ relC E ob.c vs ∧ (∀ k u, vs[k]? = some u → w.cell? ⟨b, k, none⟩ = some u) := by
 obtain ⟨h1, b, s, h2, h3⟩ := m.obj i ob hi
 refine ⟨b, s, ?_⟩
 rcases h3 with ⟨h3, h4⟩ | ⟨hf, vs, h3, h4⟩ | ⟨hf, hs, cur, T, fr, vs, post, g1, g2, g3, g4, g5, g6⟩
 ·exact ⟨[], h2, h4, fun k u hu => by simp at hu⟩
 ·exact ⟨vs, h2, h4, fun k u hu => by have := m.at_cell h3 hu; rwa [Nat.zero_add] at this⟩
 ·refine ⟨vs, h2, g5, fun k u hu => ?_⟩
  rw [cell_of_row w b k cur T fr g1, ← Array.getElem?_toList, g4, List.getElem?_append_left (List.getElem?_eq_some_iff.1 hu).1]
  exact hu

theorem relL_get {l : List AV} {vs : List Value} (r : relL E l vs) {k : Nat} {A : AV} (hA : l[k]? = some A) : ∃ u, vs[k]? = some u ∧ rel E A u := by
 obtain ⟨h1, h2⟩ := relL_iff.1 r
 obtain ⟨hk, rfl⟩ := List.getElem?_eq_some_iff.1 hA
 exact ⟨vs[k]'(by omega), by simp, h2 k hk (by omega)⟩

theorem relC_get {c : AV} {vs : List Value} (r : relC E c vs) {k : Nat} {A : AV} (hA : (cells c)[k]? = some A) : ∃ u, vs[k]? = some u ∧ rel E A u ∧ u.oneCell' = true := by
 obtain ⟨_, h1, h2⟩ := relC_iff.1 r
 obtain ⟨u, hu, hr⟩ := relL_get h1 hA
 exact ⟨u, hu, hr, h2 u (List.mem_of_getElem? hu)⟩

theorem relL_take {l : List AV} {vs : List Value} (r : relL E l vs) (n : Nat) : relL E (l.take n) (vs.take n) := by
 obtain ⟨h1, h2⟩ := relL_iff.1 r
 refine relL_iff.2 ⟨by simp [h1], fun i h h' => ?_⟩
 simp only [List.getElem_take]
 exact h2 i _ _
theorem relL_drop {l : List AV} {vs : List Value} (r : relL E l vs) (n : Nat) : relL E (l.drop n) (vs.drop n) := by
 obtain ⟨h1, h2⟩ := relL_iff.1 r
 refine relL_iff.2 ⟨by simp [h1], fun i h h' => ?_⟩
 simp only [List.getElem_drop]
 exact h2 _ _ _
theorem relL_app {l m : List AV} {us vs : List Value} (r : relL E l us) (q : relL E m vs) : relL E (l ++ m) (us ++ vs) := by
 induction l generalizing us with
 | nil => simp only [relL] at r; subst r; simpa using q
 | cons a l ih =>
   simp only [relL] at r
   obtain ⟨u, us, rfl, h1, h2⟩ := r
   simp only [List.cons_append, relL]
   exact ⟨u, us ++ vs, rfl, h1, ih h2⟩
theorem relL_set {l : List AV} {vs : List Value} (r : relL E l vs) (n : Nat) {A : AV} {u : Value} (hA : rel E A u) : relL E (l.set n A) (vs.set n u) := by
 obtain ⟨h1, h2⟩ := relL_iff.1 r
 refine relL_iff.2 ⟨by simp [h1], fun i h h' => ?_⟩
 by_cases e : n = i
 ·subst e; simpa using hA
 ·simp only [List.getElem_set, e, if_false]
  exact h2 _ _ _

theorem ones_app {us vs : List Value} (h : ones us) (k : ones vs) : ones (us ++ vs) := fun u hu => by
 rcases List.mem_append.1 hu with h' | h'
 ·exact h u h'
 ·exact k u h'
theorem ones_sub {us vs : List Value} (h : ones us) (k : ∀ u ∈ vs, u ∈ us) : ones vs := fun u hu => h u (k u hu)

theorem relC_sub {c : AV} {o n : Nat} {C : Option Prop} {d : AV} (hd : csub c o n = some (C, d)) (hC : holds C) {vs : List Value} (r : relC E c vs) : relC E d ((vs.drop o).take n) := by
 obtain ⟨h1, h2, _⟩ := csub_ok hd hC
 obtain ⟨_, h3, h4⟩ := relC_iff.1 r
 refine relC_iff.2 ⟨h1, by rw [h2]; exact relL_take (relL_drop h3 _) _, ones_sub h4 fun u hu => List.mem_of_mem_drop (List.mem_of_mem_take hu)⟩

theorem relC_exp {c : AV} {o n : Nat} {C : Option Prop} {d : AV} (hd : cexp c o n = some (C, d)) (hC : holds C) {vs : List Value} (r : relC E c vs) : relC E d ((vs.drop o).take n) := by
 obtain ⟨h1, h2, _⟩ := cexp_ok hd hC
 obtain ⟨_, h3, h4⟩ := relC_iff.1 r
 refine relC_iff.2 ⟨h1, by rw [h2]; exact relL_take (relL_drop h3 _) _, ones_sub h4 fun u hu => List.mem_of_mem_drop (List.mem_of_mem_take hu)⟩

theorem relC_app {c d e : AV} (he : capp c d = some e) {us vs : List Value} (r : relC E c us) (q : relC E d vs) : relC E e (us ++ vs) := by
 rcases capp_ok he with ⟨h1, h2⟩ | ⟨n, sz, f, l, xs, rfl, rfl, hx, hl, rfl⟩
 ·obtain ⟨_, h3, h4⟩ := relC_iff.1 r
  obtain ⟨_, h5, h6⟩ := relC_iff.1 q
  exact relC_iff.2 ⟨h1, by rw [h2]; exact relL_app h3 h5, ones_app h4 h6⟩
 ·simp only [relC] at r q ⊢
  refine ⟨?_, ones_app r.2 q.2⟩
  rw [flatF_snoc sz f n xs hl, ← relFL_A, List.map_append]
  exact relL_app (relFL_A.2 r.1) (relFL_A.2 (fvDL_ok hx q.1))

theorem relC_set {c : AV} {o : Nat} {C : Option Prop} {A d : AV} (hd : cset c o A = some (C, d)) (hC : holds C) {vs : List Value} (r : relC E c vs) {u : Value} (hu : rel E A u) (h1' : u.oneCell' = true) : relC E d (vs.set o u) ∧ o < vs.length := by
 obtain ⟨h1, h2, h0⟩ := cset_ok hd hC
 obtain ⟨_, h3, h4⟩ := relC_iff.1 r
 refine ⟨relC_iff.2 ⟨h1, by rw [h2]; exact relL_set h3 _ hu, fun x hx => ?_⟩, by rw [relL_length h3]; exact h0⟩
 rcases List.mem_or_eq_of_mem_set hx with h | h
 ·exact h4 x h
 ·rw [h]; exact h1'

theorem relC_put {c d : AV} {o : Nat} {C : Option Prop} {c' : AV} (hd : cput c o d = some (C, c')) (hC : holds C) {vs us : List Value} (r : relC E c vs) (q : relC E d us) : relC E c' (vs.take o ++ us ++ vs.drop (o + us.length)) ∧ o + us.length ≤ vs.length := by
 obtain ⟨h1, h2, h0⟩ := cput_ok hd hC
 obtain ⟨_, h3, h4⟩ := relC_iff.1 r
 obtain ⟨_, h5, h6⟩ := relC_iff.1 q
 have e : us.length = (cells d).length := relL_length h5
 refine ⟨relC_iff.2 ⟨h1, by rw [h2, e]; exact relL_app (relL_app (relL_take h3 _) h5) (relL_drop h3 _), ?_⟩, by rw [relL_length h3, e]; exact h0⟩
 exact ones_app (ones_app (ones_sub h4 fun u hu => List.mem_of_mem_take hu) h6) (ones_sub h4 fun u hu => List.mem_of_mem_drop hu)

def Env.name (E : Env) (i b s e : Nat) : Env := { E with ι := fun j => if j = i then some (b, s) else E.ι j, ep := fun j => if j = i then e else E.ep j }
def Env.keep (E : Env) (b : Nat) (cs : Array Value) : Env := { E with p := fun k => if k = b then some cs else E.p k }

theorem Env.le_name_new {i b s e : Nat} (hi : E.ι i = none) : E.le (E.name i b s e) :=
 ⟨fun _ _ h => h, fun j hj => by
   have : j ≠ i := fun e => hj (by rw [e]; exact hi)
   exact .inl (by simp [Env.name, this]), fun _ h => h, fun _ _ => rfl⟩
theorem Env.le_name_next {i b s e : Nat} (he : E.ep i < e) : E.le (E.name i b s e) :=
 ⟨fun _ _ h => h, fun j hj => by
   by_cases e' : j = i
   ·subst e'; exact .inr (by simp [Env.name]; exact he)
   ·exact .inl (by simp [Env.name, e']), fun _ h => h, fun _ _ => rfl⟩
theorem Env.le_keep {b : Nat} {cs : Array Value} (hb : E.p b = none) : E.le (E.keep b cs) :=
 ⟨fun k cs' hk => by
   have : k ≠ b := fun e => by rw [e, hb] at hk; cases hk
   simp [Env.keep, this, hk], fun _ _ => .inl ⟨rfl, rfl⟩, fun _ h => h, fun _ _ => rfl⟩

theorem Mem.p_new (m : Mem B E h w) : E.p w.heap.size = none := by
 cases hp : E.p w.heap.size with
 | none => rfl
 | some cs => have := m.block_lt hp; omega

theorem size_alloc (w : World) (o : Obj) : (w.alloc o).heap.size = w.heap.size + 1 := by simp

theorem Mem.allocP (m : Mem B E h w) (cs : Array Value) (T : TypeId) (fr : Nat × Nat) : E.le (E.keep w.heap.size cs) ∧ Mem B (E.keep w.heap.size cs) h (w.alloc (.cells cs T fr)) := by
 have le := Env.le_keep (cs := cs) m.p_new
 refine ⟨le, m.le.trans le, by rw [size_alloc]; have := m.size; omega, m.os, m.tape, m.output, fun b hb hM => ?_, fun b cs' hb => ?_, fun i ob hi => ?_, m.inj, fun b hb => ?_, m.fresh, m.base,
  m.xt.to rfl rfl le.p (fun b hb hn => by have := m.xt.lt (.inr hb); simp only [Env.keep]; rw [if_neg (by omega)]; exact hn) (fun b hb => heap_alloc_old _ _ _ (m.xt.lt hb)) fun b hb => (m.xt.wl b hb).2.2.2⟩
 ·rw [heap_alloc_old _ _ _ (by have := m.size; omega)]; exact m.keeps b hb hM
 ·simp only [Env.keep] at hb
  split at hb
  ·rename_i e; cases hb; subst e; exact ⟨T, fr, heap_alloc_new w _⟩
  ·obtain ⟨T', fr', h1⟩ := m.sat b cs' hb
   exact ⟨T', fr', by rw [heap_alloc_old _ _ _ (Array.getElem?_eq_some_iff.1 h1).1]; exact h1⟩
 ·refine ((m.obj i ob hi).mono le ⟨rfl, rfl⟩ fun b s _ _ _ hp hlt => ?_).heap fun b s _ _ _ hlt => heap_alloc_old _ _ _ hlt
  simp only [Env.keep]; rw [if_neg (by omega)]; exact hp
 ·simp only [Env.keep] at hb
  split at hb
  ·rename_i e; subst e; exact .inr (.inl m.size)
  ·exact m.newP b hb

theorem Mem.allocO (m : Mem B E h w) {c : AV} {cs : Array Value} {T : TypeId} {fr : Nat × Nat} {vs post : List Value} (hcs : cs.toList = vs ++ post) (hc : relC E c vs)
  (hfr : okFr fr cs.size) :
  E.le (E.name h.length w.heap.size cs.size 0) ∧ Mem B (E.name h.length w.heap.size cs.size 0) (h ++ [⟨0, c, false⟩]) (w.alloc (.cells cs T fr)) := by
 have le := Env.le_name_new (b := w.heap.size) (s := cs.size) (e := 0) (m.fresh h.length (Nat.le_refl _)).1
 refine ⟨le, m.le.trans le, by rw [size_alloc]; have := m.size; omega, m.os, m.tape, m.output, fun b hb hM => ?_, fun b cs' hb => ?_, fun i ob hi => ?_, fun i j oi oj b s t hi hj fi fj hb hb' hs ht => ?_, m.newP, fun i hi => ?_, fun i hi => m.base i (by simp at hi; omega),
  m.xt.to rfl rfl (fun _ _ h => h) (fun _ _ h => h) (fun b hb => heap_alloc_old _ _ _ (m.xt.lt hb)) fun b hb i ob b' s hi hf hb' hs => ?_⟩
 ·rw [heap_alloc_old _ _ _ (by have := m.size; omega)]; exact m.keeps b hb hM
 ·obtain ⟨T', fr', h1⟩ := m.sat b cs' hb
  exact ⟨T', fr', by rw [heap_alloc_old _ _ _ (Array.getElem?_eq_some_iff.1 h1).1]; exact h1⟩
 ·rcases Nat.lt_or_ge i h.length with hlt | hge
  ·rw [List.getElem?_append_left hlt] at hi
   refine ((m.obj i ob hi).mono le ⟨by simp [Env.name]; omega, by simp [Env.name]; omega⟩ fun b s _ _ _ hp _ => hp).heap fun b s _ _ _ hlt => heap_alloc_old _ _ _ hlt
  ·rw [List.getElem?_append_right hge] at hi
   have e : i = h.length := by
    have := (List.getElem?_eq_some_iff.1 hi).1
    simp at this; omega
   subst e
   simp at hi
   subst hi
   refine ⟨by simp [Env.name], w.heap.size, cs.size, by simp [Env.name], ?_⟩
   by_cases hz : cs.size = 0
   ·have : vs = [] := by
     have h0 : cs.toList = [] := by simpa using hz
     rw [h0] at hcs
     exact (List.append_eq_nil_iff.1 hcs.symm).1
    subst this
    exact .inl ⟨hz, relC.mono le _ _ hc⟩
   ·exact .inr (.inr ⟨rfl, by omega, cs, T, fr, vs, post, heap_alloc_new w _, rfl, hfr, hcs, relC.mono le _ _ hc, m.p_new, .inl m.size⟩)
 ·have old : ∀ {k : Nat} {ok : AO} {x y : Nat}, h[k]? = some ok → ok.fz = false → E.ι k = some (x, y) → 0 < y → x < w.heap.size := fun {k ok x y} hk fk hx hy => by
   obtain ⟨_, b', s', h2, h3⟩ := m.obj k ok hk
   rw [hx] at h2; cases h2
   rcases h3 with ⟨h3, _⟩ | ⟨hf, _⟩ | ⟨_, _, cur, T', fr', _, _, g1, _⟩
   ·omega
   ·rw [fk] at hf; cases hf
   ·exact (Array.getElem?_eq_some_iff.1 g1).1
  have lens : ∀ {k : Nat} {ok : AO}, (h ++ [⟨0, c, false⟩])[k]? = some ok → k = h.length ∨ (k < h.length ∧ h[k]? = some ok) := fun {k ok} hk => by
   rcases Nat.lt_or_ge k h.length with hlt | hge
   ·rw [List.getElem?_append_left hlt] at hk; exact .inr ⟨hlt, hk⟩
   ·have := (List.getElem?_eq_some_iff.1 hk).1
    simp at this; left; omega
  rcases lens hi with e | ⟨li, hi'⟩ <;> rcases lens hj with e' | ⟨lj, hj'⟩
  ·rw [e, e']
  ·subst e
   simp only [Env.name, if_true] at hb
   simp only [Env.name] at hb'
   rw [if_neg (by omega)] at hb'
   cases hb
   have := old hj' fj hb' ht
   omega
  ·subst e'
   simp only [Env.name, if_true] at hb'
   simp only [Env.name] at hb
   rw [if_neg (by omega)] at hb
   cases hb'
   have := old hi' fi hb hs
   omega
  ·simp only [Env.name] at hb hb'
   rw [if_neg (by omega)] at hb hb'
   exact m.inj i j oi oj b s t hi' hj' fi fj hb hb' hs ht
 ·simp at hi
  simp only [Env.name]
  rw [if_neg (by omega), if_neg (by omega)]
  exact m.fresh i (by omega)
 ·have hlt := m.xt.lt (.inr hb)
  by_cases e : i = h.length
  ·subst e
   simp only [Env.name, if_true] at hb'
   cases hb'
   omega
  ·simp only [Env.name] at hb'
   rw [if_neg e] at hb'
   have hlen := (List.getElem?_eq_some_iff.1 hi).1
   simp at hlen
   rw [List.getElem?_append_left (by omega)] at hi
   exact (m.xt.wl b hb).2.2.2 i ob b' s hi hf hb' hs

theorem Mem.writeO (m : Mem B E h w) {i b s : Nat} {ob : AO} {c' : AV} {w' : World} (hi : h[i]? = some ob) (hf : ob.fz = false) (hι : E.ι i = some (b, s)) (hs : 0 < s)
  {cur' : Array Value} {T : TypeId} {fr : Nat × Nat} {vs' post' : List Value}
  (hold : ∃ cur, w.heap[b]? = some (.cells cur T fr) ∧ cur.size = cur'.size) (hnew : w'.heap[b]? = some (.cells cur' T fr)) (hsz : w'.heap.size = w.heap.size) (hoth : ∀ k, k ≠ b → w'.heap[k]? = w.heap[k]?)
  (h1 : w'.os = w.os) (h2 : w'.tape = w.tape) (h3 : w'.output = w.output) (hcs : cur'.toList = vs' ++ post') (hc : relC E c' vs') :
  Mem B E (h.set i { ob with c := c' }) w' := by
 obtain ⟨cur, hcur, hcs'⟩ := hold
 have ho := m.obj i ob hi
 obtain ⟨hep, b', s', hb', hrow⟩ := ho
 rw [hι] at hb'; cases hb'
 obtain ⟨cur0, T0, fr0, vs0, post0, g1, g2, g3, g4, g5, g6, g7⟩ : rowO E B.w0.heap.size B.M w ob.c b s := by
  rcases hrow with ⟨h, _⟩ | ⟨h, _⟩ | ⟨_, _, h⟩
  ·omega
  ·rw [hf] at h; cases h
  ·exact h
 rw [hcur] at g1; cases g1
 refine ⟨m.le, by rw [hsz]; exact m.size, h1.trans m.os, h2.trans m.tape, h3.trans m.output, fun k hk hM => ?_, fun k cs hk => ?_, fun j oj hj => ?_, fun j k oj ok b1 s1 t1 hj hk fj fk => ?_, m.newP, fun j hj => m.fresh j (by simpa using hj), fun j hj => m.base j (by simpa using hj),
  m.xt.to rfl rfl (fun _ _ h => h) (fun _ _ h => h) (fun k hk => hoth k ?_) fun k hk j oj b' s' hj fj hb' hs' => ?_⟩
 ·have : k ≠ b := fun e => by
   subst e
   rcases g7 with g7 | g7
   ·omega
   ·exact hM g7
  rw [hoth k this]; exact m.keeps k hk hM
 ·have : k ≠ b := fun e => by subst e; rw [g6] at hk; cases hk
  obtain ⟨T', fr', h4⟩ := m.sat k cs hk
  exact ⟨T', fr', by rw [hoth k this]; exact h4⟩
 ·by_cases e : j = i
  ·subst e
   rw [List.getElem?_set_self (List.getElem?_eq_some_iff.1 hi).1] at hj
   cases hj
   exact ⟨hep, b, s, hι, .inr (.inr ⟨hf, hs, cur', T, fr, vs', post', hnew, by rw [← hcs']; exact g2, g3, hcs, hc, g6, g7⟩)⟩
  ·rw [List.getElem?_set_ne (Ne.symm e)] at hj
   refine (m.obj j oj hj).heap fun b2 s2 hb2 hf2 hs2 _ => hoth b2 fun e2 => ?_
   subst e2
   exact e (m.inj j i oj ob b2 s2 s hj hi hf2 hf hb2 hι hs2 hs)
 ·have get : ∀ {k : Nat} {ok : AO}, (h.set i { ob with c := c' })[k]? = some ok → ok.fz = false → ∃ o', h[k]? = some o' ∧ o'.fz = false := fun {k ok} hk fk => by
   by_cases e : k = i
   ·subst e; exact ⟨ob, hi, hf⟩
   ·rw [List.getElem?_set_ne (Ne.symm e)] at hk; exact ⟨ok, hk, fk⟩
  obtain ⟨oj', hj', fj'⟩ := get hj fj
  obtain ⟨ok', hk', fk'⟩ := get hk fk
  exact m.inj j k oj' ok' b1 s1 t1 hj' hk' fj' fk'
 ·rintro rfl
  rcases hk with hk | hk
  ·obtain ⟨_, cs, _, _, hc, _⟩ := m.xt.ow _ hk
   rw [g6] at hc; cases hc
  ·exact (m.xt.wl _ hk).2.2.2 i ob _ s hi hf hι hs rfl
 ·by_cases e : j = i
  ·subst e
   rw [hι] at hb'; cases hb'
   exact (m.xt.wl k hk).2.2.2 _ ob _ _ hi hf hι hs
  ·rw [List.getElem?_set_ne (Ne.symm e)] at hj
   exact (m.xt.wl k hk).2.2.2 j oj b' s' hj fj hb' hs'

theorem Mem.markO (m : Mem B E h w) {i b s : Nat} {ob : AO} {w' : World} (hi : h[i]? = some ob) (hf : ob.fz = false) (hι : E.ι i = some (b, s)) (hs : 0 < s)
  {cur : Array Value} {T : TypeId} {fr fr' : Nat × Nat} (hcur : w.heap[b]? = some (.cells cur T fr)) (hnew : w'.heap[b]? = some (.cells cur T fr')) (hfr : okFr fr' s)
  (hsz : w'.heap.size = w.heap.size) (hoth : ∀ k, k ≠ b → w'.heap[k]? = w.heap[k]?) (h1 : w'.os = w.os) (h2 : w'.tape = w.tape) (h3 : w'.output = w.output) : Mem B E h w' := by
 obtain ⟨hep, b', s', hb', hrow⟩ := m.obj i ob hi
 rw [hι] at hb'; cases hb'
 obtain ⟨cur0, T0, fr0, vs0, post0, g1, g2, g3, g4, g5, g6, g7⟩ : rowO E B.w0.heap.size B.M w ob.c b s := by
  rcases hrow with ⟨h, _⟩ | ⟨h, _⟩ | ⟨_, _, h⟩
  ·omega
  ·rw [hf] at h; cases h
  ·exact h
 rw [hcur] at g1; cases g1
 refine ⟨m.le, by rw [hsz]; exact m.size, h1.trans m.os, h2.trans m.tape, h3.trans m.output, fun k hk hM => ?_, fun k cs hk => ?_, fun j oj hj => ?_, m.inj, m.newP, m.fresh, m.base,
  m.xt.to rfl rfl (fun _ _ h => h) (fun _ _ h => h) (fun k hk => hoth k ?_) fun k hk => (m.xt.wl k hk).2.2.2⟩
 ·have : k ≠ b := fun e => by
   subst e
   rcases g7 with g7 | g7
   ·omega
   ·exact hM g7
  rw [hoth k this]; exact m.keeps k hk hM
 ·have : k ≠ b := fun e => by subst e; rw [g6] at hk; cases hk
  obtain ⟨T', fr', h4⟩ := m.sat k cs hk
  exact ⟨T', fr', by rw [hoth k this]; exact h4⟩
 ·by_cases e : j = i
  ·subst e
   rw [hi] at hj; cases hj
   exact ⟨hep, b, s, hι, .inr (.inr ⟨hf, hs, cur, T, fr', vs0, post0, hnew, g2, hfr, g4, g5, g6, g7⟩)⟩
  ·refine (m.obj j oj hj).heap fun b2 s2 hb2 hf2 hs2 _ => hoth b2 fun e2 => ?_
   subst e2
   exact e (m.inj j i oj ob b2 s2 s hj hi hf2 hf hb2 hι hs2 hs)
 ·rintro rfl
  rcases hk with hk | hk
  ·obtain ⟨_, cs, _, _, hc, _⟩ := m.xt.ow _ hk
   rw [g6] at hc; cases hc
  ·exact (m.xt.wl _ hk).2.2.2 i ob _ s hi hf hι hs rfl

theorem Mem.moveO (m : Mem B E h w) {i : Nat} {ob : AO} {c' : AV} (hi : h[i]? = some ob) {cs : Array Value} {T : TypeId} {vs' post' : List Value} (hcs : cs.toList = vs' ++ post')
  (hpos : 0 < cs.size) (hc : relC E c' vs') :
  E.le (E.name i w.heap.size cs.size (ob.ep + 1)) ∧ Mem B (E.name i w.heap.size cs.size (ob.ep + 1)) (h.set i ⟨ob.ep + 1, c', false⟩) (w.alloc (.cells cs T (0, 0))) := by
 have hlt : i < h.length := (List.getElem?_eq_some_iff.1 hi).1
 have hep : E.ep i = ob.ep := (m.obj i ob hi).1
 have le := Env.le_name_next (b := w.heap.size) (s := cs.size) (show E.ep i < ob.ep + 1 by omega)
 have old : ∀ {k : Nat} {ok : AO} {x y : Nat}, h[k]? = some ok → ok.fz = false → E.ι k = some (x, y) → 0 < y → x < w.heap.size := fun {k ok x y} hk fk hx hy => by
  obtain ⟨_, b', s', h2, h3⟩ := m.obj k ok hk
  rw [hx] at h2; cases h2
  rcases h3 with ⟨h3, _⟩ | ⟨hf, _⟩ | ⟨_, _, cur, T', fr', _, _, g1, _⟩
  ·omega
  ·rw [fk] at hf; cases hf
  ·exact (Array.getElem?_eq_some_iff.1 g1).1
 refine ⟨le, m.le.trans le, by rw [size_alloc]; have := m.size; omega, m.os, m.tape, m.output, fun b hb hM => ?_, fun b cs' hb => ?_, fun j oj hj => ?_, fun j k oj ok b s t hj hk fj fk hb hb' hs ht => ?_, m.newP, fun j hj => ?_, fun j hj => m.base j (by simpa using hj),
  m.xt.to rfl rfl (fun _ _ h => h) (fun _ _ h => h) (fun b hb => heap_alloc_old _ _ _ (m.xt.lt hb)) fun b hb j oj b' s' hj fj hb' hs' => ?_⟩
 ·rw [heap_alloc_old _ _ _ (by have := m.size; omega)]; exact m.keeps b hb hM
 ·obtain ⟨T', fr', h1⟩ := m.sat b cs' hb
  exact ⟨T', fr', by rw [heap_alloc_old _ _ _ (Array.getElem?_eq_some_iff.1 h1).1]; exact h1⟩
 ·by_cases e : j = i
  ·subst e
   rw [List.getElem?_set_self hlt] at hj
   cases hj
   exact ⟨by simp [Env.name], w.heap.size, cs.size, by simp [Env.name], .inr (.inr ⟨rfl, hpos, cs, T, (0, 0), vs', post', heap_alloc_new w _, rfl, .inl rfl, hcs, relC.mono le _ _ hc, m.p_new, .inl m.size⟩)⟩
  ·rw [List.getElem?_set_ne (Ne.symm e)] at hj
   exact ((m.obj j oj hj).mono le ⟨by simp [Env.name, e], by simp [Env.name, e]⟩ fun b s _ _ _ hp _ => hp).heap fun b s _ _ _ hlt => heap_alloc_old _ _ _ hlt
 ·by_cases e : j = i <;> by_cases e' : k = i
  ·rw [e, e']
  ·subst e
   simp only [Env.name, if_true] at hb
   cases hb
   simp only [Env.name, e', if_false] at hb'
   rw [List.getElem?_set_ne (Ne.symm e')] at hk
   have := old hk fk hb' ht
   omega
  ·subst e'
   simp only [Env.name, if_true] at hb'
   cases hb'
   simp only [Env.name, e, if_false] at hb
   rw [List.getElem?_set_ne (Ne.symm e)] at hj
   have := old hj fj hb hs
   omega
  ·simp only [Env.name, e, e', if_false] at hb hb'
   rw [List.getElem?_set_ne (Ne.symm e)] at hj
   rw [List.getElem?_set_ne (Ne.symm e')] at hk
   exact m.inj j k oj ok b s t hj hk fj fk hb hb' hs ht
 ·simp at hj
  simp only [Env.name]
  rw [if_neg (by omega), if_neg (by omega)]
  exact m.fresh j hj
 ·have hlt' := m.xt.lt (.inr hb)
  by_cases e : j = i
  ·subst e
   simp only [Env.name, if_true] at hb'
   cases hb'
   omega
  ·simp only [Env.name] at hb'
   rw [if_neg e] at hb'
   rw [List.getElem?_set_ne (Ne.symm e)] at hj
   exact (m.xt.wl b hb).2.2.2 j oj b' s' hj fj hb' hs'

theorem Mem.freeze (m : Mem B E h w) {i : Nat} {ob : AO} (hi : h[i]? = some ob) : ∃ E', E.le E' ∧ Mem B E' (h.set i { ob with fz := true }) w ∧ E'.ι = E.ι ∧ E'.ep = E.ep := by
 have hlt : i < h.length := (List.getElem?_eq_some_iff.1 hi).1
 have get : ∀ {k : Nat} {ok : AO}, (h.set i { ob with fz := true })[k]? = some ok → (k = i ∧ ok = { ob with fz := true }) ∨ (k ≠ i ∧ h[k]? = some ok) := fun {k ok} hk => by
  by_cases e : k = i
  ·subst e; rw [List.getElem?_set_self hlt] at hk; cases hk; exact .inl ⟨rfl, rfl⟩
  ·rw [List.getElem?_set_ne (Ne.symm e)] at hk; exact .inr ⟨e, hk⟩
 have ho := m.obj i ob hi
 obtain ⟨hep, b, s, hι, hrow⟩ := ho
 have done : ∀ E', E.le E' → E'.ι = E.ι → E'.ep = E.ep → (∀ k cs, E'.p k = some cs → E.p k = some cs ∨ (k = b ∧ ∃ T fr, w.heap[b]? = some (.cells cs T fr))) →
   (E.p b = none → ∀ k, E'.p k ≠ none → E.p k ≠ none ∨ B.w0.heap.size ≤ k ∨ B.M k) → (∀ k, E'.p k ≠ none → E.p k ≠ none ∨ (k = b ∧ E.p b = none ∧ ob.fz = false ∧ 0 < s)) →
   relO E' B.w0.heap.size B.M w i { ob with fz := true } → E'.ow = E.ow → E'.wl = E.wl → E.le E' ∧ Mem B E' (h.set i { ob with fz := true }) w ∧ E'.ι = E.ι ∧ E'.ep = E.ep := fun E' le e1 e2 hp hnew hp' hobj e3 e4 => by
  refine ⟨le, ⟨m.le.trans le, m.size, m.os, m.tape, m.output, m.keeps, fun k cs hk => ?_, fun j oj hj => ?_, fun j k oj ok b1 s1 t1 hj hk fj fk hb hb' hs ht => ?_, fun k hk => ?_, fun j hj => ?_, fun j hj => m.base j (by simpa using hj),
   m.xt.to e3 e4 le.p (fun k hk hn => ?_) (fun _ _ => rfl) fun k hk j oj b' s' hj fj hb' hs' => ?_⟩, e1, e2⟩
  ·rcases hp k cs hk with h | ⟨rfl, h⟩
   ·exact m.sat k cs h
   ·exact h
  ·rcases get hj with ⟨rfl, rfl⟩ | ⟨hne, hj⟩
   ·exact hobj
   ·refine (m.obj j oj hj).mono le ⟨by rw [e2], by rw [e1]⟩ fun b2 s2 hb2 hf2 hs2 hp2 _ => ?_
    cases hc : E'.p b2 with
    | none => rfl
    | some cs =>
      rcases hp' b2 (by rw [hc]; simp) with h | ⟨rfl, _, hf, hs⟩
      ·exact absurd hp2 h
      ·exact absurd (m.inj j i oj ob b2 s2 s hj hi hf2 hf hb2 hι hs2 hs) hne
  ·rcases get hj with ⟨rfl, rfl⟩ | ⟨_, hj⟩
   ·cases fj
   ·rcases get hk with ⟨rfl, rfl⟩ | ⟨_, hk⟩
    ·cases fk
    ·rw [e1] at hb hb'; exact m.inj j k oj ok b1 s1 t1 hj hk fj fk hb hb' hs ht
  ·rcases hp' k hk with h | ⟨rfl, h, _⟩
   ·exact m.newP k h
   ·rcases hnew h k hk with h' | h'
    ·exact m.newP k h'
    ·exact .inr h'
  ·rw [e1, e2]; exact m.fresh j (by simpa using hj)
  ·cases hc : E'.p k with
   | none => rfl
   | some cs =>
     rcases hp' k (by rw [hc]; simp) with h' | ⟨rfl, _, hf, hs⟩
     ·exact absurd hn h'
     ·exact absurd rfl ((m.xt.wl _ hk).2.2.2 i ob _ s hi hf hι hs)
  ·rcases get hj with ⟨rfl, rfl⟩ | ⟨_, hj⟩
   ·cases fj
   ·rw [e1] at hb'; exact (m.xt.wl k hk).2.2.2 j oj b' s' hj fj hb' hs'
 rcases hrow with hrow | hrow | ⟨hf, hs, cur, T, fr, vs, post, g1, g2, g3, g4, g5, g6, g7⟩
 ·exact ⟨E, done E (Env.le.refl E) rfl rfl (fun k cs hk => .inl hk) (fun _ k hk => .inl hk) (fun k hk => .inl hk) ⟨hep, b, s, hι, .inl hrow⟩ rfl rfl⟩
 ·exact ⟨E, done E (Env.le.refl E) rfl rfl (fun k cs hk => .inl hk) (fun _ k hk => .inl hk) (fun k hk => .inl hk) ⟨hep, b, s, hι, .inr (.inl ⟨rfl, hrow.2⟩)⟩ rfl rfl⟩
 ·have le := Env.le_keep (cs := cur) g6
  refine ⟨E.keep b cur, done _ le rfl rfl (fun k cs hk => ?_) (fun _ k hk => ?_) (fun k hk => ?_) ⟨hep, b, s, hι, .inr (.inl ⟨rfl, vs, ⟨cur, [], post, by simp [Env.keep], by simpa using g4, rfl⟩, relC.mono le _ _ g5⟩)⟩ rfl rfl⟩
  ·simp only [Env.keep] at hk
   split at hk
   ·rename_i e; cases hk; exact .inr ⟨e, T, fr, g1⟩
   ·exact .inl hk
  ·simp only [Env.keep] at hk
   split at hk
   ·rename_i e; subst e; exact .inr g7
   ·exact .inl hk
  ·simp only [Env.keep] at hk
   split at hk
   ·rename_i e; exact .inr ⟨e, g6, hf, hs⟩
   ·exact .inl hk

theorem rel_ms_sl (m : Mem B E h w) {nil : Bool} {i o n sz : Nat} {ob : AO} (hi : h[i]? = some ob) (hf : ob.fz = true) {v : Value} (hv : rel E (.ms nil i ob.ep o n sz) v) {C : Option Prop} {d : AV} (hd : csub ob.c o (n * sz) = some (C, d)) (hC : holds C) :
  rel E (.sl nil n sz d false) v := by
 simp only [rel] at hv ⊢
 obtain ⟨hc1, hc2, hc3⟩ := csub_ok hd hC
 split
 ·rename_i hn; rw [if_pos hn] at hv
  refine ⟨hv.1, hv.2, relC_iff.2 ⟨hc1, ?_, fun u hu => by simp at hu⟩⟩
  rw [hc2, hv.2, Nat.zero_mul, List.take_zero]; simp only [relL]
 ·rename_i hn; rw [if_neg hn] at hv
  obtain ⟨_, _, a, cap, rfl, hle, hcur⟩ := hv
  obtain ⟨hep, b, s, hι, hrow⟩ := m.obj i ob hi
  obtain ⟨b', s', hι', ha, hs⟩ := hcur hep.symm
  rw [hι] at hι'; cases hι'
  rcases hrow with ⟨rfl, hr⟩ | ⟨_, vs, hat, hr⟩ | ⟨hf', _⟩
  ·have hl := relC_length hr
   have h0 : (cells ob.c).length = 0 := by rw [← clen_eq, ← hl]; rfl
   have hz : n * sz = 0 := by
    rcases Nat.eq_zero_or_pos (n * sz) with h | h
    ·exact h
    ·have := hc3 h; omega
   refine ⟨a, cap, [], rfl, hle, by simp, .inl rfl, by simp [hz], relC_iff.2 ⟨hc1, ?_, fun u hu => by simp at hu⟩⟩
   rw [hc2, hz, List.take_zero]; simp only [relL]
  ·have hsub := relC_sub hd hC hr
   have hl := relC_length hr
   have hlen : n * sz = 0 ∨ ((vs.drop o).take (n * sz)).length = n * sz := by
    rcases Nat.eq_zero_or_pos (n * sz) with h | h
    ·exact .inl h
    ·have := hc3 h
     rw [← clen_eq, ← hl] at this
     right; simp; omega
   refine ⟨a, cap, (vs.drop o).take (n * sz), rfl, hle, by simp, ?_, ?_, hsub⟩
   ·rcases ha with rfl | rfl
    ·have : n = 0 := by omega
     subst this; left; simp
    ·by_cases hz : n * sz = 0
     ·left; rw [hz]; rfl
     ·right
      refine ⟨b, o, rfl, ?_⟩
      obtain ⟨cs, pre, post, k1, k2, k3⟩ := hat
      have hpre : pre = [] := List.eq_nil_of_length_eq_zero k3
      subst hpre
      have h1 : o + n * sz ≤ vs.length := by have := hc3 (by omega); rw [← clen_eq, ← hl] at this; exact this
      refine ⟨cs, vs.take o, (vs.drop o).drop (n * sz) ++ post, k1, ?_, by simp; omega⟩
      rw [k2, List.nil_append]
      conv => lhs; rw [← List.take_append_drop o vs, ← List.take_append_drop (n * sz) (vs.drop o)]
      simp [List.append_assoc]
   ·rcases hlen with h | h
    ·simp [h]
    ·exact h
  ·rw [hf] at hf'; cases hf'

mutual
def below (k : Nat) : AV → Bool
 | .ptr i _ _ => Nat.blt i k
 | .pel i _ _ _ _ => Nat.blt i k
 | .ms _ i _ _ _ _ => Nat.blt i k
 | .rop c => below k c
 | .sl _ _ _ c _ => below k c
 | .agg l => belowL k l
 | .tup l => belowL k l
 | .fn _ l => belowL k l
 | .bf _ l => belowL k l
 | .iface _ v => below k v
 | _ => true
def belowL (k : Nat) : List AV → Bool
 | [] => true
 | a :: l => match below k a with | true => belowL k l | false => false
end

def Env.cut (E : Env) (k : Nat) : Env := { E with ι := fun i => if i < k then E.ι i else none, ep := fun i => if i < k then E.ep i else 0 }

theorem Env.at_cut {k b o : Nat} {vs : List Value} (h : E.at_ b o vs) : (E.cut k).at_ b o vs := h

mutual
theorem rel_cut {k : Nat} : ∀ (A : AV) (v : Value), below k A = true → rel E A v → rel (E.cut k) A v
 | .any, _, _, _ => by simp only [rel]
 | .undef, _, _, r => by simp only [rel] at r ⊢; exact r
 | .int _, _, _, r => by simp only [rel] at r ⊢; exact r
 | .u8 _, _, _, r => by simp only [rel] at r ⊢; exact r
 | .u32 _, _, _, r => by simp only [rel] at r ⊢; exact r
 | .u64 _, _, _, r => by simp only [rel] at r ⊢; exact r
 | .bool _, _, _, r => by simp only [rel] at r ⊢; exact r
 | .str _, _, _, r => by simp only [rel] at r ⊢; exact r
 | .nilp, _, _, r => by simp only [rel] at r ⊢; exact r
 | .ptr i e o, v, hb, r => by
   simp only [below, Nat.blt_eq] at hb
   simp only [rel, Env.cut] at r ⊢
   rw [if_pos hb, if_pos hb]; exact r
 | .rop c, v, hb, r => by
   simp only [below] at hb
   simp only [rel] at r ⊢
   obtain ⟨b, o, vs, h1, h2, h3⟩ := r
   exact ⟨b, o, vs, h1, h2, relC_cut c vs hb h3⟩
 | .sl nil n sz c full, v, hb, r => by
   simp only [below] at hb
   simp only [rel] at r ⊢
   split
   ·rename_i hn; rw [if_pos hn] at r; exact ⟨r.1, r.2.1, relC_cut c [] hb r.2.2⟩
   ·rename_i hn; rw [if_neg hn] at r
    obtain ⟨a, cap, vs, h1, h2, h3, h4, h5, h6⟩ := r
    exact ⟨a, cap, vs, h1, h2, h3, h4, h5, relC_cut c vs hb h6⟩
 | .ms nil i e o n sz, v, hb, r => by
   simp only [below, Nat.blt_eq] at hb
   simp only [rel, Env.cut] at r ⊢
   rw [if_pos hb, if_pos hb]; exact r
 | .agg l, v, hb, r => by
   simp only [below] at hb
   simp only [rel] at r ⊢
   obtain ⟨vs, h1, h2, h3⟩ := r
   exact ⟨vs, h1, relL_cut l _ hb h2, h3⟩
 | .ab _, _, _, r => by simp only [rel] at r ⊢; exact r
 | .ai _, _, _, r => by simp only [rel] at r ⊢; exact r
 | .au _, _, _, r => by simp only [rel] at r ⊢; exact r
 | .tup l, v, hb, r => by
   simp only [below] at hb
   simp only [rel] at r ⊢
   obtain ⟨vs, h1, h2⟩ := r
   exact ⟨vs, h1, relL_cut l _ hb h2⟩
 | .fn f l, v, hb, r => by
   simp only [below] at hb
   simp only [rel] at r ⊢
   obtain ⟨vs, h1, h2⟩ := r
   exact ⟨vs, h1, relL_cut l _ hb h2⟩
 | .bf f l, v, hb, r => by
   simp only [below] at hb
   simp only [rel] at r ⊢
   obtain ⟨vs, h1, h2⟩ := r
   exact ⟨vs, h1, relL_cut l _ hb h2⟩
 | .yl _, _, _, r => by simp only [rel] at r ⊢; exact r
 | .nilf, _, _, r => by simp only [rel] at r ⊢; exact r
 | .iface t a, v, hb, r => by
   simp only [below] at hb
   simp only [rel] at r ⊢
   obtain ⟨u, h1, h2⟩ := r
   exact ⟨u, h1, rel_cut a u hb h2⟩
 | .nili, _, _, r => by simp only [rel] at r ⊢; exact r
 | .rw _ _ _, _, _, r => by simp only [rel] at r
 | .pel i e o _ _, v, hb, r => by
   simp only [below, Nat.blt_eq] at hb
   simp only [rel, Env.cut] at r ⊢
   rw [if_pos hb, if_pos hb]; exact r
 | .ob _ _, _, _, r => by simp only [rel] at r ⊢; exact r
 | .wsl _, _, _, r => by simp only [rel] at r ⊢; exact r
 | .wp, _, _, r => by simp only [rel] at r ⊢; exact r
 | .w8, _, _, r => by simp only [rel] at r ⊢; exact r
theorem relL_cut {k : Nat} : ∀ (l : List AV) (vs : List Value), belowL k l = true → relL E l vs → relL (E.cut k) l vs
 | [], _, _, r => by simp only [relL] at r ⊢; exact r
 | a :: l, _, hb, r => by
   simp only [belowL] at hb
   split at hb
   ·rename_i ha
    simp only [relL] at r ⊢
    obtain ⟨u, us, h1, h2, h3⟩ := r
    exact ⟨u, us, h1, rel_cut a u ha h2, relL_cut l us hb h3⟩
   ·cases hb
theorem relC_cut {k : Nat} : ∀ (A : AV) (vs : List Value), below k A = true → relC E A vs → relC (E.cut k) A vs
 | .agg l, vs, hb, r => by simp only [below] at hb; simp only [relC] at r ⊢; exact ⟨relL_cut l vs hb r.1, r.2⟩
 | .ab _, _, _, r => by simp only [relC] at r ⊢; exact r
 | .ai _, _, _, r => by simp only [relC] at r ⊢; exact r
 | .au _, _, _, r => by simp only [relC] at r ⊢; exact r
 | .rw _ _ _, _, _, r => by simp only [relC] at r ⊢; exact ⟨@relFL.ofP E (E.cut k) rfl rfl rfl _ _ r.1, r.2⟩
 | .ob _ _, _, _, r | .wsl _, _, _, r | .wp, _, _, r | .w8, _, _, r
 | .pel _ _ _ _ _, _, _, r | .any, _, _, r | .undef, _, _, r | .int _, _, _, r | .u8 _, _, _, r | .u32 _, _, _, r | .u64 _, _, _, r | .bool _, _, _, r | .str _, _, _, r | .nilp, _, _, r | .ptr _ _ _, _, _, r | .rop _, _, _, r
 | .sl _ _ _ _ _, _, _, r | .ms _ _ _ _ _ _, _, _, r | .tup _, _, _, r | .fn _ _, _, _, r | .bf _ _, _, _, r | .yl _, _, _, r | .nilf, _, _, r | .iface _ _, _, _, r | .nili, _, _, r => by simp only [relC] at r
end

def hbelow (k : Nat) : List AO → Bool
 | [] => true
 | ob :: h => match below k ob.c with | true => hbelow k h | false => false
theorem hbelow_ok {k : Nat} : ∀ {h : List AO}, hbelow k h = true → ∀ {i : Nat} {ob : AO}, h[i]? = some ob → below k ob.c = true
 | [], _, i, ob, hi => by simp at hi
 | a :: h, hb, i, ob, hi => by
   simp only [hbelow] at hb
   split at hb
   ·rename_i ha
    cases i with
    | zero => simp at hi; subst hi; exact ha
    | succ i => simp at hi; exact hbelow_ok hb hi
   ·cases hb

theorem Mem.drop (m : Mem B E h w) {k : Nat} (hb : hbelow k (h.take k) = true) (h0 : ∀ i, k ≤ i → B.E0.ι i = none) : Mem B (E.cut k) (h.take k) w := by
 have get : ∀ {i : Nat} {ob : AO}, (h.take k)[i]? = some ob → i < k ∧ h[i]? = some ob := fun {i ob} hi => by
  have := (List.getElem?_eq_some_iff.1 hi).1
  simp at this
  rw [List.getElem?_take, if_pos (by omega)] at hi
  exact ⟨by omega, hi⟩
 refine ⟨⟨m.le.p, fun i hi => ?_, m.le.ow, m.le.wl⟩, m.size, m.os, m.tape, m.output, m.keeps, m.sat, fun i ob hi => ?_, fun i j oi oj b s t hi hj fi fj hb' hb'' => ?_, m.newP, fun i hi => ?_, fun i hi => ?_,
  m.xt.to rfl rfl (fun _ _ h => h) (fun _ _ h => h) (fun _ _ => rfl) fun b hb i ob b' s hi hf hb' hs => ?_⟩
 ·have hlt : i < k := by
   rcases Nat.lt_or_ge i k with h | h
   ·exact h
   ·exact absurd (h0 i h) hi
  simp only [Env.cut, if_pos hlt]; exact m.le.ι i hi
 ·obtain ⟨hlt, hi'⟩ := get hi
  obtain ⟨h1, b, s, h2, h3⟩ := m.obj i ob hi'
  have hbo := hbelow_ok hb hi
  refine ⟨by simp only [Env.cut, if_pos hlt]; exact h1, b, s, by simp only [Env.cut, if_pos hlt]; exact h2, ?_⟩
  rcases h3 with ⟨h3, h4⟩ | ⟨hf, vs, h3, h4⟩ | ⟨hf, hs, cur, T, fr, vs, post, g1, g2, g3, g4, g5, g6, g7⟩
  ·exact .inl ⟨h3, relC_cut _ _ hbo h4⟩
  ·exact .inr (.inl ⟨hf, vs, h3, relC_cut _ _ hbo h4⟩)
  ·exact .inr (.inr ⟨hf, hs, cur, T, fr, vs, post, g1, g2, g3, g4, relC_cut _ _ hbo g5, g6, g7⟩)
 ·obtain ⟨l1, h1⟩ := get hi
  obtain ⟨l2, h2⟩ := get hj
  simp only [Env.cut, if_pos l1] at hb'
  simp only [Env.cut, if_pos l2] at hb''
  exact m.inj i j oi oj b s t h1 h2 fi fj hb' hb''
 ·simp at hi
  simp only [Env.cut]
  split
  ·exact m.fresh i (by omega)
  ·exact ⟨rfl, rfl⟩
 ·simp at hi
  by_cases hk : k ≤ i
  ·exact h0 i hk
  ·exact m.base i (by omega)
 ·obtain ⟨l1, h1⟩ := get hi
  simp only [Env.cut, if_pos l1] at hb'
  exact (m.xt.wl b hb).2.2.2 i ob b' s h1 hf hb' hs


inductive X where
 | t (n : Nat) | c (A : AV)
inductive EK where
 | u8 | u32 | int | other
inductive CK where
 | ii | iu8 | iu32 | iu64 | u8i | u8u32 | u8u64 | u32i | u32u8 | u32u64 | u64i | u64u8 | u64u32 | strb (m : Bool) | bstr | mark
inductive QK where
 | sc | bool | slice | ptr | arr (n : Nat)
inductive IOp where
 | mov (x : X) | pick (c a b : X)
 | alloc (z : AV) | box (x : X)
 | build (z : List AV) (parts : List (Nat × Nat × X))
 | bsl (m : Bool) (k : EK) (sz n : Nat) (z : List AV) (parts : List (Nat × Nat × X))
 | load (n : Option Nat) (a : X) | store (n : Option Nat) (a v : X)
 | nilck (x : X)
 | bin (op : BinOp) (x y : X) | eq (neq : Bool) (k : QK) (x y : X) | un (op : UnOp) (x : X)
 | conv (k : CK) (x : X)
 | mkf (f : Nat) (cap : List X) | mkb (f : Nat) (fs : List X)
 | mksl (k : EK) (sz by_ : Nat) (z : List AV) (l c : X)
 | slcS (sz : Nat) (x : X) (lo hi mx : Option X) | slcA (n sz : Nat) (x : X) (lo hi : Option X) | slcT (x : X) (lo hi : Option X)
 | fad (off : Nat) (x : X) | iadA (n sz : Nat) (x i : X) | iadS (sz : Nat) (x i : X) | idx (x i : X)
 | ext (x : X) (k : Nat)
 | call (f : X) (args : List X)
 | app (m : Bool) (sz by_ : Nat) (s x : X)
 | len (t : Bool) (x : X) | cap (x : X) | mn (x y : X) | mx (x y : X) | mki (t : Nat) (x : X)
 | bad

def w64 (n : Int) : Int := IntKind.i64.wrap n
def iand (a b : Int) : Int := IntKind.i64.wrap (BitVec.ofInt 64 a &&& BitVec.ofInt 64 b).toNat
def ior (a b : Int) : Int := IntKind.i64.wrap (BitVec.ofInt 64 a ||| BitVec.ofInt 64 b).toNat
def ixor (a b : Int) : Int := IntKind.i64.wrap (BitVec.ofInt 64 a ^^^ BitVec.ofInt 64 b).toNat

def lookB : Bool → AV → (Nat → AV) → Nat → AV
 | true, v, _, _ => v
 | false, _, f, k => f k
def look : List (Nat × AV) → Nat → AV
 | [], _ => .any
 | (j, v) :: r, k => lookB (Nat.beq j k) v (look r) k
theorem look_cons (j : Nat) (v : AV) (r : List (Nat × AV)) (k : Nat) : look ((j, v) :: r) k = match Nat.beq j k with | true => v | false => look r k := by
 simp only [look]; cases Nat.beq j k <;> rfl
def xv (s : Nat → AV) : X → AV
 | .t n => s n
 | .c A => A
def xvs (s : Nat → AV) : List X → List AV
 | [] => []
 | x :: l => xv s x :: xvs s l
def hget : List AO → Nat → Option AO
 | [], _ => none
 | a :: _, 0 => some a
 | _ :: l, n + 1 => hget l n
def hset : List AO → Nat → AO → List AO
 | [], _, _ => []
 | _ :: l, 0, v => v :: l
 | a :: l, n + 1, v => a :: hset l n v
def hsnoc : List AO → AO → List AO
 | [], v => [v]
 | a :: l, v => a :: hsnoc l v
def hlen : List AO → Nat
 | [] => 0
 | _ :: l => hlen l + 1
theorem hget_eq : ∀ (l : List AO) (n : Nat), hget l n = l[n]?
 | [], _ => by simp [hget]
 | _ :: _, 0 => by simp [hget]
 | _ :: l, n + 1 => by simp [hget, hget_eq l n]
theorem hset_eq : ∀ (l : List AO) (n : Nat) (v : AO), hset l n v = l.set n v
 | [], _, _ => by simp [hset]
 | _ :: _, 0, _ => by simp [hset]
 | _ :: l, n + 1, v => by simp [hset, hset_eq l n v]
theorem hsnoc_eq : ∀ (l : List AO) (v : AO), hsnoc l v = l ++ [v]
 | [], _ => rfl
 | a :: l, v => by simp [hsnoc, hsnoc_eq l v]
theorem hlen_eq : ∀ l : List AO, hlen l = l.length
 | [] => rfl
 | _ :: l => by simp [hlen, hlen_eq l]

inductive ER where
 | v (C : Option Prop) (A : AV)
 | e (C : Option Prop) (A : AV) (h : List AO)
 | k (C : Option Prop) (h : List AO)
 | no

def both : Option Prop → Option Prop → Option Prop
 | none, q => q
 | some p, none => some p
 | some p, some q => some (p ∧ q)
theorem holds_both {p q : Option Prop} : holds (both p q) ↔ holds p ∧ holds q := by
 cases p <;> cases q <;> simp [both, holds]

structure SpE where
 fz : Bool
 f : List AV → List AO → ER
abbrev Sp := List (Nat × SpE)
def s0f (f : List AV → List AO → ER) (as : List AV) (_ : List AO) : ER :=
 match belowL 0 as with
 | true => match f as [] with
   | .v C A => match below 0 A with | true => .v C A | false => .no
   | _ => .no
 | false => .no
def sp0 : Sp → Sp
 | [] => []
 | (j, e) :: r => (j, ⟨e.fz, s0f e.f⟩) :: sp0 r
def sfind : Sp → Nat → Option SpE
 | [], _ => none
 | (j, e) :: r, k => match Nat.beq j k with | true => some e | false => sfind r k

def one1 : AV → Option AV
 | .any | .undef | .tup _ | .agg _ | .ab _ | .ai _ | .au _ | .rw _ _ _ => none
 | v => some v

def csubT (c : AV) (o n : Nat) : AV :=
 match c with
 | .agg l => match ltake (ldrop l o) n with | some m => .agg m | none => .any
 | .ab l => .ab ((l.drop o).take n)
 | .ai l => .ai ((l.drop o).take n)
 | .au l => .au ((l.drop o).take n)
 | .rw m sz f => .agg (((mapA (flatF sz f m)).drop o).take n)
 | _ => .any
def ctakeT (c : AV) (n : Nat) : AV :=
 match c with
 | .agg l => match ltake l n with | some m => .agg m | none => .any
 | .ab l => .ab (l.take n)
 | .ai l => .ai (l.take n)
 | .au l => .au (l.take n)
 | .rw m sz f => .agg ((mapA (flatF sz f m)).take n)
 | _ => .any
def cdropT (c : AV) (o : Nat) : AV :=
 match c with
 | .agg l => .agg (ldrop l o)
 | .ab l => .ab (l.drop o)
 | .ai l => .ai (l.drop o)
 | .au l => .au (l.drop o)
 | .rw m sz f => .agg ((mapA (flatF sz f m)).drop o)
 | _ => .any
def celT (c : AV) (sz i : Nat) : AV :=
 match c with
 | .agg l => match Nat.beq sz 1 with
   | true => match lget l i with | some v => .agg [v] | none => .any
   | false => match ltake (ldrop l (i * sz)) sz with | some m => .agg m | none => .any
 | .ab l => match Nat.beq sz 1 with | true => .ab [l.getD i 0] | false => .ab ((l.drop (i * sz)).take sz)
 | .ai l => match Nat.beq sz 1 with | true => .ai [l.getD i 0] | false => .ai ((l.drop (i * sz)).take sz)
 | .au l => match Nat.beq sz 1 with | true => .au [l.getD i 0] | false => .au ((l.drop (i * sz)).take sz)
 | .rw m sz' f => match Nat.beq sz' sz with | true => .agg (mapA (normF sz' (f i))) | false => .agg (((mapA (flatF sz' f m)).drop (i * sz)).take sz)
 | _ => .any
def mulz (i sz : Nat) : Nat := match Nat.beq sz 1 with | true => i | false => i * sz

def ab? : List AV → Option (List UInt8)
 | [] => some []
 | .u8 x :: l => match ab? l with | some m => some (x :: m) | none => none
 | _ => none
def ai? : List AV → Option (List Int)
 | [] => some []
 | .int x :: l => match ai? l with | some m => some (x :: m) | none => none
 | _ => none
def au? : List AV → Option (List UInt32)
 | [] => some []
 | .u32 x :: l => match au? l with | some m => some (x :: m) | none => none
 | _ => none
def typed (k : EK) (l : List AV) : Option AV :=
 match k with
 | .u8 => match ab? l with | some m => some (.ab m) | none => none
 | .int => match ai? l with | some m => some (.ai m) | none => none
 | .u32 => match au? l with | some m => some (.au m) | none => none
 | .other => some (.agg l)
def zeros (k : EK) (n : Nat) (z : List AV) : AV :=
 match k with
 | .u8 => .ab (List.replicate n 0)
 | .int => .ai (List.replicate n 0)
 | .u32 => .au (List.replicate n 0)
 | .other => .agg (lrep n z)

def rdS (h : List AO) (sz : Nat) : AV → Option (Option Prop × Nat × AV)
 | .sl nil n sz' c _ => match Nat.beq sz' sz with
   | true => some (none, n, c)
   | false => match nil with | true => some (none, n, c) | false => none
 | .ms nil i e o n sz' => match hget h i with
   | some ob => match Nat.beq ob.ep e with
     | true => match Nat.beq sz' sz with
       | true => match csub ob.c o (mulz n sz) with | some (C, d) => some (C, n, d) | none => none
       | false => none
     | false => none
   | none => none
 | .ob _ l => match Nat.beq sz 1 with | true => some (none, l.length, .ab l) | false => none
 | _ => none

def eq1 : AV → AV → Option Bool
 | .int a, .int b => some (a == b)
 | .u8 a, .u8 b => some (a == b)
 | .u32 a, .u32 b => some (a == b)
 | .u64 a, .u64 b => some (a == b)
 | _, _ => none
def andE (x : Bool) : List AV → Option Bool → Option Bool
 | [], some _ => some x
 | _ :: _, some y => some (x && y)
 | _, none => none
def eqs : List AV → List AV → Option Bool
 | [], [] => some true
 | a :: l, b :: m => match eq1 a b with
   | some x => andE x l (eqs l m)
   | none => none
 | _, _ => none
theorem eqs_nil {m : List AV} {b : Bool} (h : eqs [] m = some b) : m = [] := by cases m with | nil => rfl | cons => simp [eqs] at h
def shn : AV → Option (Option Prop × Nat)
 | .u64 y => some (none, y.toNat)
 | .u32 y => some (none, y.toNat)
 | .u8 y => some (none, y.toNat)
 | .int n => some (some (0 ≤ n), n.toNat)
 | _ => none
def ngt (neq b : Bool) : Bool := match neq with | true => !b | false => b
def evEq (neq : Bool) (k : QK) (x y : AV) : ER :=
 match k with
 | .sc => match x, y with
   | .str a, .str b => .v none (.bool (ngt neq (a == b)))
   | x, y => match eq1 x y with | some b => .v none (.bool (ngt neq b)) | none => .no
 | .bool => match x, y with | .bool a, .bool b => .v none (.bool (ngt neq (a == b))) | _, _ => .no
 | .slice => match x, y with
   | .sl a _ _ _ _, .sl true _ _ _ _ => .v none (.bool (ngt neq a))
   | .sl true _ _ _ _, .sl b _ _ _ _ => .v none (.bool (ngt neq b))
   | .ms a _ _ _ _ _, .sl true _ _ _ _ => .v none (.bool (ngt neq a))
   | _, _ => .no
 | .ptr => match x, y with
   | .nilp, .nilp => .v none (.bool (ngt neq true))
   | .ptr i e o, .nilp => .v none (.bool neq)
   | .nilp, .ptr i e o => .v none (.bool neq)
   | _, _ => .no
 | .arr n => match x, y with
   | .agg l, .agg m => match Nat.beq (llen l) n with
     | true => match eqs l m with | some b => .v none (.bool (ngt neq b)) | none => .no
     | false => .no
   | _, _ => .no

def evBin (op : BinOp) (x y : AV) : ER :=
 match op with
 | .add => match x, y with
   | .int a, .int b => .v none (.int (w64 (a + b)))
   | .u8 a, .u8 b => .v none (.u8 (a + b))
   | .u32 a, .u32 b => .v none (.u32 (a + b))
   | .u64 a, .u64 b => .v none (.u64 (a + b))
   | .str a, .str b => .v (some ((a.length : Int) + (b.length : Int) ≤ 9223372036854775807)) (.str (a ++ b))
   | .w8, .u8 _ => .v none .w8
   | _, _ => .no
 | .sub => match x, y with
   | .int a, .int b => .v none (.int (w64 (a - b)))
   | .u8 a, .u8 b => .v none (.u8 (a - b))
   | .u32 a, .u32 b => .v none (.u32 (a - b))
   | .u64 a, .u64 b => .v none (.u64 (a - b))
   | _, _ => .no
 | .mul => match x, y with
   | .int a, .int b => .v none (.int (w64 (a * b)))
   | .u32 a, .u32 b => .v none (.u32 (a * b))
   | .u64 a, .u64 b => .v none (.u64 (a * b))
   | _, _ => .no
 | .quo => match x, y with
   | .int a, .int b => .v (some (b ≠ 0)) (.int (w64 (a.tdiv b)))
   | _, _ => .no
 | .rem => match x, y with
   | .int a, .int b => .v (some (b ≠ 0)) (.int (a.tmod b))
   | _, _ => .no
 | .and => match x, y with
   | .int a, .int b => .v none (.int (iand a b))
   | .u8 a, .u8 b => .v none (.u8 (a &&& b))
   | .u32 a, .u32 b => .v none (.u32 (a &&& b))
   | .u64 a, .u64 b => .v none (.u64 (a &&& b))
   | _, _ => .no
 | .or => match x, y with
   | .int a, .int b => .v none (.int (ior a b))
   | .u8 a, .u8 b => .v none (.u8 (a ||| b))
   | .u32 a, .u32 b => .v none (.u32 (a ||| b))
   | .u64 a, .u64 b => .v none (.u64 (a ||| b))
   | _, _ => .no
 | .xor => match x, y with
   | .int a, .int b => .v none (.int (ixor a b))
   | .u8 a, .u8 b => .v none (.u8 (a ^^^ b))
   | .u32 a, .u32 b => .v none (.u32 (a ^^^ b))
   | .u64 a, .u64 b => .v none (.u64 (a ^^^ b))
   | _, _ => .no
 | .shl => match shn y with
   | some (C, n) => match x with
     | .int a => .v C (.int (w64 (a * 2 ^ min n 64)))
     | .u8 a => .v C (.u8 (UInt8.ofNat (a.toNat * 2 ^ min n 8)))
     | .u32 a => .v C (.u32 (UInt32.ofNat (a.toNat * 2 ^ min n 32)))
     | .u64 a => .v C (.u64 (UInt64.ofNat (a.toNat * 2 ^ min n 64)))
     | _ => .no
   | none => .no
 | .shr => match shn y with
   | some (C, n) => match x with
     | .int a => .v C (.int (a / 2 ^ min n 64))
     | .u8 a => .v C (.u8 (UInt8.ofNat (a.toNat / 2 ^ min n 8)))
     | .u32 a => .v C (.u32 (UInt32.ofNat (a.toNat / 2 ^ min n 32)))
     | .u64 a => .v C (.u64 (UInt64.ofNat (a.toNat / 2 ^ min n 64)))
     | _ => .no
   | none => .no
 | .lss => match x, y with
   | .int a, .int b => .v none (.bool (decide (a < b)))
   | .u8 a, .u8 b => .v none (.bool (decide (a.toNat < b.toNat)))
   | .u32 a, .u32 b => .v none (.bool (decide (a.toNat < b.toNat)))
   | .u64 a, .u64 b => .v none (.bool (decide (a.toNat < b.toNat)))
   | .str a, .str b => .v none (.bool (Op.bytesLess a b))
   | _, _ => .no
 | .leq => match x, y with
   | .int a, .int b => .v none (.bool (decide (a ≤ b)))
   | .u8 a, .u8 b => .v none (.bool (decide (a.toNat ≤ b.toNat)))
   | .u32 a, .u32 b => .v none (.bool (decide (a.toNat ≤ b.toNat)))
   | .u64 a, .u64 b => .v none (.bool (decide (a.toNat ≤ b.toNat)))
   | .str a, .str b => .v none (.bool (Op.bytesLess a b || a == b))
   | _, _ => .no
 | .gtr => match x, y with
   | .int a, .int b => .v none (.bool (decide (b < a)))
   | .u8 a, .u8 b => .v none (.bool (decide (b.toNat < a.toNat)))
   | .u32 a, .u32 b => .v none (.bool (decide (b.toNat < a.toNat)))
   | .u64 a, .u64 b => .v none (.bool (decide (b.toNat < a.toNat)))
   | .str a, .str b => .v none (.bool (!(Op.bytesLess a b || a == b)))
   | _, _ => .no
 | .geq => match x, y with
   | .int a, .int b => .v none (.bool (decide (b ≤ a)))
   | .u8 a, .u8 b => .v none (.bool (decide (b.toNat ≤ a.toNat)))
   | .u32 a, .u32 b => .v none (.bool (decide (b.toNat ≤ a.toNat)))
   | .u64 a, .u64 b => .v none (.bool (decide (b.toNat ≤ a.toNat)))
   | .str a, .str b => .v none (.bool (!Op.bytesLess a b))
   | _, _ => .no
 | _ => .no

def evUn (op : UnOp) (x : AV) : ER :=
 match op, x with
 | .not, .bool b => .v none (.bool (!b))
 | .neg, .int a => .v none (.int (w64 (0 - a)))
 | .neg, .u32 a => .v none (.u32 (0 - a))
 | .xor, .u32 a => .v none (.u32 (~~~a))
 | _, _ => .no

def evConv (h : List AO) (k : CK) (x : AV) : ER :=
 match k, x with
 | .ii, .int n => .v none (.int (w64 n))
 | .iu8, .int n => .v none (.u8 (UInt8.ofInt n))
 | .iu32, .int n => .v none (.u32 (UInt32.ofInt n))
 | .iu64, .int n => .v none (.u64 (UInt64.ofInt n))
 | .u8i, .u8 a => .v none (.int (a.toNat : Int))
 | .u8u32, .u8 a => .v none (.u32 (UInt32.ofNat a.toNat))
 | .u8u64, .u8 a => .v none (.u64 (UInt64.ofNat a.toNat))
 | .u32i, .u32 a => .v none (.int (a.toNat : Int))
 | .u32u8, .u32 a => .v none (.u8 (UInt8.ofNat a.toNat))
 | .u32u64, .u32 a => .v none (.u64 (UInt64.ofNat a.toNat))
 | .u64i, .u64 a => .v none (.int (w64 (a.toNat : Int)))
 | .u64u8, .u64 a => .v none (.u8 (UInt8.ofNat a.toNat))
 | .u64u32, .u64 a => .v none (.u32 (UInt32.ofNat a.toNat))
 | .strb false, .str l => .v none (.sl false l.length 1 (.ab l) false)
 | .strb true, .str l => .e none (.ms false (hlen h) 0 0 l.length 1) (hsnoc h ⟨0, .ab l, false⟩)
 | .bstr, x => match rdS h 1 x with
   | some (C, _, .ab l) => .v C (.str l)
   | some (C, _, .agg []) => .v C (.str [])
   | _ => .no
 | .mark, .ms false i e o n sz => match hget h i with
   | some ob => match Nat.beq ob.ep e with
     | true => match ob.fz with
       | false => match Nat.beq sz 1 with
         | true => .v (some (0 < n)) (.ms false i e o n sz)
         | false => .no
       | true => .no
     | false => .no
   | none => .no
 | _, _ => .no

def lay (s : Nat → AV) : List AV → List (Nat × Nat × X) → Option (List AV)
 | z, [] => some z
 | z, (off, size, x) :: r => match toC (xv s x) with
   | some (.agg m) => match Nat.beq (llen m) size with
     | true => match lput z off m with | some z' => lay s z' r | none => none
     | false => none
   | _ => none

def xi (s : Nat → AV) : Option X → Option (Option Int)
 | none => some none
 | some x => match xv s x with | .int n => some (some n) | _ => none

def bnds (n : Nat) : Option Int → Option Int → Option Prop × Nat × Nat
 | none, none => (none, 0, n)
 | some l, none => (some (0 ≤ l ∧ l ≤ (n : Int)), l.toNat, n)
 | none, some r => (some (0 ≤ r ∧ r ≤ (n : Int)), 0, r.toNat)
 | some l, some r => (some (0 ≤ l ∧ l ≤ r ∧ r ≤ (n : Int)), l.toNat, r.toNat)
def cutT (c : AV) (sz : Nat) : Option Int → Option Int → Nat → Nat → AV
 | none, none, _, _ => c
 | some _, none, l, _ => cdropT c (mulz l sz)
 | none, some _, _, r => ctakeT c (mulz r sz)
 | some _, some _, l, r => csubT c (mulz l sz) (mulz (r - l) sz)

def lenS (lo : Option Int) (l r : Nat) : Nat := match lo with | none => r | some _ => r - l
def offS (lo : Option Int) (o l sz : Nat) : Nat := match lo with | none => o | some _ => o + mulz l sz
def fulS (hi : Option Int) (full : Bool) : Bool := match hi with | none => full | some _ => false
def cutS (t : List UInt8) (lo hi : Option Int) (l r : Nat) : List UInt8 :=
 match lo, hi with
 | none, none => t
 | some _, none => t.drop l
 | none, some _ => t.take r
 | some _, some _ => (t.drop l).take (r - l)
def evSlice (s : Nat → AV) (sz : Nat) (x : AV) (lo hi mx : Option X) : ER :=
 match xi s lo, xi s hi, xi s mx with
 | some lo, some hi, some none => match x with
   | .sl nil n sz' c full => match Nat.beq sz' sz with
     | true => match bnds n lo hi with
       | (C, l, r) => .v C (.sl nil (lenS lo l r) sz (cutT c sz lo hi l r) (fulS hi full))
     | false => match nil with
       | true => match bnds n lo hi with
         | (C, _, _) => .v C (.sl true n sz' c full)
       | false => .no
   | .ms nil i e o n sz' => match Nat.beq sz' sz with
     | true => match bnds n lo hi with
       | (C, l, r) => .v C (.ms nil i e (offS lo o l sz) (lenS lo l r) sz)
     | false => .no
   | _ => .no
 | some none, some (some r), some (some m) => match x with
   | .sl false n sz' c _ => match Nat.beq sz' sz with
     | true => .v (some (0 ≤ r ∧ r ≤ (n : Int) ∧ m = r)) (.sl false r.toNat sz (ctakeT c (mulz r.toNat sz)) true)
     | false => .no
   | .ms false i e o n sz' => match Nat.beq sz' sz with
     | true => .v (some (0 ≤ r ∧ r ≤ (n : Int) ∧ m = r)) (.ms false i e o r.toNat sz)
     | false => .no
   | _ => .no
 | _, _, _ => .no

mutual
def hasMs : AV → Bool
 | .ms _ _ _ _ _ _ => true
 | .agg l => hasMsL l
 | _ => false
def hasMsL : List AV → Bool
 | [] => false
 | a :: l => match hasMs a with | true => true | false => hasMsL l
end
mutual
def frzV (h : List AO) : AV → Option (Option Prop × AV × List AO)
 | .ms nil i e o n sz => match hget h i with
   | some ob => match Nat.beq ob.ep e with
     | true => match csub ob.c o (mulz n sz) with
       | some (C, d) => some (C, .sl nil n sz d false, hset h i { ob with fz := true })
       | none => none
     | false => none
   | none => none
 | .agg l => match frzL h l with
   | some (C, l', h') => some (C, .agg l', h')
   | none => none
 | v => some (none, v, h)
def frzL (h : List AO) : List AV → Option (Option Prop × List AV × List AO)
 | [] => some (none, [], h)
 | a :: l => match frzV h a with
   | some (C, a', h') => match frzL h' l with
     | some (D, l', h'') => some (both C D, a' :: l', h'')
     | none => none
   | none => none
end

def frzI (h : List AO) (i : Nat) : Option (Option Prop × List AO) :=
 match hget h i with
 | some ob => match ob.c with
   | .agg l => match hasMsL l with
     | true => match ob.fz with
       | false => match frzL h l with
         | some (C, l', h') => match hget h' i with
           | some ob' => match ob'.fz with
             | false => match Nat.beq ob'.ep ob.ep with
               | true => some (C, hset h' i ⟨ob.ep, .agg l', false⟩)
               | false => none
             | true => none
           | none => none
         | none => none
       | true => some (none, h)
     | false => some (none, h)
   | _ => some (none, h)
 | none => some (none, h)
def allFz (h : List AO) : List AV → Bool
 | [] => true
 | .ms _ i e _ _ _ :: l => match hget h i with
   | some ob => match ob.fz with
     | true => match Nat.beq ob.ep e with | true => allFz h l | false => false
     | false => false
   | none => false
 | .agg _ :: _ => false
 | _ :: l => allFz h l
def frzJ (h : List AO) (i : Nat) : Option (Option Prop × List AO) :=
 match hget h i with
 | some ob => match ob.c with
   | .agg l => match hasMsL l with
     | true => match allFz h l with
       | true => frzI h i
       | false => some (none, h)
     | false => some (none, h)
   | _ => some (none, h)
 | none => some (none, h)
def frzA : Nat → List AO → Option (Option Prop × List AO)
 | 0, h => some (none, h)
 | i + 1, h => match frzJ h i with
   | some (C, h') => match frzA i h' with
     | some (D, h'') => some (both C D, h'')
     | none => none
   | none => none
def nestL : List AV → Bool
 | [] => false
 | .agg l :: r => match hasMsL l with | true => true | false => nestL r
 | _ :: r => nestL r
def frzC (h : List AO) (as : List AV) : Option (Option Prop × List AV × List AO) :=
 match frzL h as with
 | some (D, as', h') => match nestL as with
   | false => some (D, as', h')
   | true => match frzA (hlen h') h' with
     | some (F, h2) => some (both D F, as', h2)
     | none => none
 | none => none

def evCall (sp : Sp) (h : List AO) (f : AV) (as : List AV) : ER :=
 match f with
 | .fn g cap => match sfind sp g with
   | some e => match e.fz with
     | false => e.f (lapp as cap) h
     | true => match hasMsL as with
       | false => e.f (lapp as cap) h
       | true => match frzC h as with
         | some (D, as', h') => match e.f (lapp as' cap) h' with
           | .v C A => .e (both D C) A h'
           | .e C A h'' => .e (both D C) A h''
           | _ => .no
         | none => .no
   | none => .no
 | .bf g fs => match sfind sp g with
   | some e => match e.fz with
     | false => e.f (lapp fs as) h
     | true => match hasMsL as with
       | false => e.f (lapp fs as) h
       | true => .no
   | none => .no
 | _ => .no

def srcS (h : List AO) (sz : Nat) : AV → Option (Option Prop × Nat × AV)
 | .str l => match Nat.beq sz 1 with | true => some (none, l.length, .ab l) | false => none
 | y => rdS h sz y
def ctakeT0 (c : AV) (n : Nat) : AV :=
 match c with
 | .agg l => match Nat.beq n 0 with | true => .agg [] | false => .agg l
 | .ab l => .ab (l.take (n * l.length))
 | .ai l => .ai (l.take (n * l.length))
 | .au l => .au (l.take (n * l.length))
 | .rw m sz f => .rw (match Nat.beq n 0 with | true => 0 | false => m) sz f
 | c => c
theorem take_mul {α : Type} (l : List α) (n : Nat) : l.take (n * l.length) = match Nat.beq n 0 with | true => [] | false => l := by
 cases n with
 | zero => simp [Nat.beq]
 | succ n => simp [Nat.beq, List.take_of_length_le, Nat.succ_mul]
theorem take_all {α : Type} {l : List α} {n : Nat} (h : n ≠ 0 ∨ l = []) : l.take (n * l.length) = l := by
 rcases h with h | rfl
 ·rw [take_mul]; cases n with
  | zero => exact absurd rfl h
  | succ n => rfl
 ·simp
theorem ctakeT0_eq (c : AV) (n : Nat) : ctakeT0 c n = match Nat.beq n 0 with | true => (match c with | .agg _ => .agg [] | .ab _ => .ab [] | .ai _ => .ai [] | .au _ => .au [] | .rw _ sz f => .rw 0 sz f | c => c) | false => c := by
 cases c <;> simp only [ctakeT0, take_mul] <;> cases Nat.beq n 0 <;> rfl
def nilK (nil : Bool) (k : Nat) : Bool := match nil with | true => Nat.beq k 0 | false => false
def appSl (h : List AO) (m : Bool) (sz by_ : Nat) (D : Option Prop) (k : Nat) (d : AV) (nil : Bool) (n : Nat) (c : AV) : ER :=
 match m with
 | false => match capp c d with
   | some c' => .v (both D (some ((n + k) * by_ ≤ 140737488355328))) (.sl (nilK nil k) (n + k) sz c' false)
   | none => .no
 | true => match Nat.beq n 0 with
   | true => .e (both D (some (k * by_ ≤ 140737488355328))) (.ms (nilK nil k) (hlen h) 0 0 k sz) (hsnoc h ⟨0, d, false⟩)
   | false => match capp c d with
     | some c' => .e (both D (some (0 < k ∧ (n + k) * by_ ≤ 140737488355328))) (.ms false (hlen h) 0 0 (n + k) sz) (hsnoc h ⟨0, c', false⟩)
     | none => .no
def appMs (h : List AO) (sz by_ : Nat) (D : Option Prop) (k : Nat) (d : AV) (nil : Bool) (i e n : Nat) : ER :=
 match hget h i with
 | some ob => match Nat.beq ob.ep e with
   | true => match ob.fz with
     | false => match capp (ctakeT0 ob.c n) d with
       | some c => .e (both D (some (mulz n sz = clen (ctakeT0 ob.c n) ∧ (n + k) * by_ ≤ 140737488355328)))
          (.ms (nilK nil k) i (e + 1) 0 (n + k) sz) (hset h i ⟨e + 1, c, false⟩)
       | none => .no
     | true => .no
   | false => .no
 | none => .no
def evApp (h : List AO) (m : Bool) (sz by_ : Nat) (x y : AV) : ER :=
 match srcS h sz y with
 | some (D, k, d) => match x with
   | .ms nil i e o n sz' => match Nat.beq o 0 with
     | true => match Nat.beq sz' sz with
       | true => appMs h sz by_ D k d nil i e n
       | false => .no
     | false => .no
   | .sl nil n sz' c full => match Nat.beq sz' sz with
     | true => match full with
       | true => appSl h m sz by_ D k d nil n c
       | false => match nil with
         | true => appSl h m sz by_ D k d true n c
         | false => .no
     | false => match nil with
       | true => appSl h m sz by_ D k d true n c
       | false => .no
   | _ => .no
 | none => .no

def ofC : Option (Option Prop × AV) → ER
 | some (C, v) => .v C v
 | none => .no

def fget : List FV → Nat → Option FV
 | [], _ => none
 | x :: _, 0 => some x
 | _ :: l, n + 1 => fget l n
def fset : List FV → Nat → FV → Option (List FV)
 | [], _, _ => none
 | _ :: l, 0, v => some (v :: l)
 | x :: l, n + 1, v => match fset l n v with | some m => some (x :: m) | none => none
def fdrop : List FV → Nat → List FV
 | l, 0 => l
 | [], _ + 1 => []
 | _ :: l, n + 1 => fdrop l n
def ftake : List FV → Nat → Option (List FV)
 | _, 0 => some []
 | [], _ + 1 => none
 | x :: l, n + 1 => match ftake l n with | some m => some (x :: m) | none => none
def fput : List FV → Nat → List FV → Option (List FV)
 | l, 0, [] => some l
 | _ :: l, 0, b :: m => match fput l 0 m with | some r => some (b :: r) | none => none
 | a :: l, n + 1, m => match fput l n m with | some r => some (a :: r) | none => none
 | [], _, _ => none
def fupd (f : Nat → List FV) (k : Nat) (l : List FV) : Nat → List FV := fun x => match Nat.beq x k with | true => l | false => f x
def rowP (h : List AO) (i e sz : Nat) : Option (Nat × (Nat → List FV) × Bool) :=
 match hget h i with
 | some ob => match Nat.beq ob.ep e with
   | true => match ob.c with
     | .rw n sz' f => match Nat.beq sz' sz with | true => some (n, f, ob.fz) | false => none
     | _ => none
   | false => none
 | none => none
def ldP1 (h : List AO) (i e k j sz : Nat) : ER :=
 match rowP h i e sz with
 | some (n, f, _) => match fget (normF sz (f k)) j with | some x => .v (some (k < n)) x.A | none => .no
 | none => .no
def ldPN (h : List AO) (i e k j sz m : Nat) : ER :=
 match rowP h i e sz with
 | some (n, f, _) => match ftake (fdrop (normF sz (f k)) j) m with | some l => .v (some (k < n)) (.agg (mapA l)) | none => .no
 | none => .no
def stP1 (h : List AO) (i e k j sz : Nat) (u : AV) : ER :=
 match rowP h i e sz with
 | some (n, f, fz) => match fz with
   | false => match fvD u with
     | some x => match fset (normF sz (f k)) j x with | some l => .k (some (k < n)) (hset h i ⟨e, .rw n sz (fupd f k l), false⟩) | none => .no
     | none => .no
   | true => .no
 | none => .no
def stPN (h : List AO) (i e k j sz m : Nat) (d : AV) : ER :=
 match d with
 | .agg us => match rowP h i e sz with
   | some (n, f, fz) => match fz with
     | false => match fvDL us with
       | some xs => match fput (normF sz (f k)) j xs with
         | some l => match Nat.beq (llen us) m with
           | true => .k (some (k < n)) (hset h i ⟨e, .rw n sz (fupd f k l), false⟩)
           | false => .no
         | none => .no
       | none => .no
     | true => .no
   | none => .no
 | _ => .no
def stPZ (h : List AO) (i e k j sz m : Nat) (d : AV) : ER :=
 match d with
 | .agg (a :: b :: l) => match hasMsL (a :: b :: l) with
   | true => match frzL h (a :: b :: l) with
     | some (D, l', h') => match hasMsL l' with
       | false => match stPN h' i e k j sz m (.agg l') with
         | .k C h'' => .k (both D C) h''
         | _ => .no
       | true => .no
     | none => .no
   | false => stPN h i e k j sz m (.agg (a :: b :: l))
 | d => stPN h i e k j sz m d
def isRw : Option AO → Bool
 | some ob => match ob.c with | .rw _ _ _ => true | _ => false
 | none => false
def elP (h : List AO) (j e o k sz : Nat) : AV :=
 match isRw (hget h j) with
 | true => match Nat.beq o 0 with | true => .pel j e k 0 sz | false => .ptr j e (o + mulz k sz)
 | false => .ptr j e (o + mulz k sz)

def ev (sp : Sp) (s : Nat → AV) (h : List AO) : IOp → ER
 | .mov x => .v none (xv s x)
 | .pick c a b => match xv s c with | .bool t => .v none (match t with | true => xv s a | false => xv s b) | _ => .no
 | .alloc z => .e none (.ptr (hlen h) 0 0) (hsnoc h ⟨0, z, false⟩)
 | .box x => match toC (xv s x) with | some c => .e none (.ptr (hlen h) 0 0) (hsnoc h ⟨0, c, false⟩) | none => .no
 | .build z parts => match lay s z parts with | some l => .v none (.agg l) | none => .no
 | .bsl m k sz n z parts => match lay s (lrep n z) parts with
   | some l => match typed k l with
     | some c => match m with
       | true => .e none (.ms false (hlen h) 0 0 n sz) (hsnoc h ⟨0, c, false⟩)
       | false => .v none (.sl false n sz c true)
     | none => .no
   | none => .no
 | .load none a => match xv s a with
   | .ptr i e o => match hget h i with
     | some ob => match Nat.beq ob.ep e with | true => ofC (cget ob.c o) | false => .no
     | none => .no
   | .rop c => ofC (cget c 0)
   | .pel i e k j sz => ldP1 h i e k j sz
   | .wp => .v none .w8
   | _ => .no
 | .load (some n) a => match xv s a with
   | .ptr i e o => match hget h i with
     | some ob => match Nat.beq ob.ep e with | true => ofC (cexp ob.c o n) | false => .no
     | none => .no
   | .rop c => ofC (cexp c 0 n)
   | .pel i e k j sz => ldPN h i e k j sz n
   | _ => .no
 | .store none a v => match xv s a, one1 (xv s v) with
   | .ptr i e o, some u => match hget h i with
     | some ob => match Nat.beq ob.ep e with
       | true => match ob.fz with
         | false => match cset ob.c o u with | some (C, c) => .k C (hset h i ⟨e, c, false⟩) | none => .no
         | true => .no
       | false => .no
     | none => .no
   | .pel i e k j sz, some u => stP1 h i e k j sz u
   | .wp, some u => match u with | .u8 _ => .k none h | .w8 => .k none h | _ => .no
   | _, _ => .no
 | .store (some n) a v => match xv s a, toC (xv s v) with
   | .ptr i e o, some d => match hget h i with
     | some ob => match Nat.beq ob.ep e with
       | true => match ob.fz with
         | false => match cput ob.c o d with | some (C, c) => .k (both (some (clen d = n)) C) (hset h i ⟨e, c, false⟩) | none => .no
         | true => .no
       | false => .no
     | none => .no
   | .pel i e k j sz, some d => stPZ h i e k j sz n d
   | _, _ => .no
 | .nilck x => match xv s x with | .ptr i e o => .v none (.ptr i e o) | .rop c => .v none (.rop c) | .fn f cap => .v none (.fn f cap) | .bf f fs => .v none (.bf f fs) | .pel i e k j sz => .v none (.pel i e k j sz) | _ => .no
 | .bin op x y => evBin op (xv s x) (xv s y)
 | .eq neq k x y => evEq neq k (xv s x) (xv s y)
 | .un op x => evUn op (xv s x)
 | .conv k x => evConv h k (xv s x)
 | .mkf f cap => .v none (.fn f (xvs s cap))
 | .mkb f fs => .v none (.bf f (xvs s fs))
 | .mksl k sz by_ z l c => match xv s l, xv s c with
   | .int l, .int c => .e (some (0 ≤ l ∧ l ≤ c ∧ c * by_ ≤ 140737488355328)) (.ms false (hlen h) 0 0 l.toNat sz) (hsnoc h ⟨0, zeros k l.toNat z, false⟩)
   | _, _ => .no
 | .slcS sz x lo hi mx => evSlice s sz (xv s x) lo hi mx
 | .slcA n sz x lo hi => match xv s x, xi s lo, xi s hi with
   | .ptr i e o, some lo, some hi => match hget h i with
     | some ob => match Nat.beq ob.ep e with
       | true => match ob.fz with
         | false => match bnds n lo hi with
           | (C, l, r) => .v (both (some (o + mulz n sz ≤ clen ob.c)) C) (.ms false i e (offS lo o l sz) (lenS lo l r) sz)
         | true => .no
       | false => .no
     | none => .no
   | _, _, _ => .no
 | .slcT x lo hi => match xv s x, xi s lo, xi s hi with
   | .str t, some lo, some hi => match bnds t.length lo hi with
     | (C, l, r) => .v C (.str (cutS t lo hi l r))
   | _, _, _ => .no
 | .fad off x => match xv s x with
   | .ptr i e o => .v none (.ptr i e (o + off))
   | .pel i e k j sz => .v none (.pel i e k (j + off) sz)
   | .rop (.agg l) => match Nat.ble off (llen l) with | true => .v none (.rop (.agg (ldrop l off))) | false => .no
   | _ => .no
 | .iadA n sz x i => match xv s x, xv s i with
   | .ptr j e o, .int k => .v (some (0 ≤ k ∧ k < (n : Int))) (.ptr j e (o + mulz k.toNat sz))
   | _, _ => .no
 | .iadS sz x i => match xv s x, xv s i with
   | .sl _ n sz' c _, .int k => match Nat.beq sz' sz with | true => .v (some (0 ≤ k ∧ k < (n : Int))) (.rop (celT c sz k.toNat)) | false => .no
   | .ms _ j e o n sz', .int k => match Nat.beq sz' sz with | true => .v (some (0 ≤ k ∧ k < (n : Int))) (elP h j e o k.toNat sz) | false => .no
   | .wsl n, .int k => match Nat.beq sz 1 with | true => .v (some (0 ≤ k ∧ k < (n : Int))) .wp | false => .no
   | _, _ => .no
 | .idx x i => match xv s x, xv s i with
   | .str l, .int k => .v (some (0 ≤ k ∧ k < (l.length : Int))) (.u8 (l.getD k.toNat 0))
   | .str l, .u8 k => .v (some (k.toNat < l.length)) (.u8 (l.getD k.toNat 0))
   | _, _ => .no
 | .ext x k => match xv s x with
   | .tup l => match lget l k with | some v => .v none v | none => .no
   | _ => .no
 | .call f as => evCall sp h (xv s f) (xvs s as)
 | .app m sz by_ x y => evApp h m sz by_ (xv s x) (xv s y)
 | .len true x => match xv s x with
   | .str l => .v none (.int (l.length : Int))
   | _ => .no
 | .len false x => match xv s x with
   | .sl _ n _ _ _ => .v none (.int (n : Int))
   | .ms _ _ _ _ n _ => .v none (.int (n : Int))
   | .ob _ l => .v none (.int (l.length : Int))
   | .wsl n => .v none (.int (n : Int))
   | _ => .no
 | .cap x => match xv s x with
   | .sl nil n _ _ full => match nil with
     | true => .v none (.int 0)
     | false => match full with | true => .v none (.int (n : Int)) | false => .no
   | _ => .no
 | .mn x y => match xv s x, xv s y with
   | .int a, .int b => .v none (.int (if b < a then b else a))
   | _, _ => .no
 | .mx x y => match xv s x, xv s y with
   | .int a, .int b => .v none (.int (if a < b then b else a))
   | _, _ => .no
 | .mki t x => .v none (.iface t (xv s x))
 | .bad => .no


inductive TD where
 | bool | int | u8 | u32 | u64 | str | ptr | slice (e : Nat) | arr (n e : Nat) | struct (offs : List (Nat × Nat)) | func | iface | tuple | other
structure TInf where
 d : TD
 size : Nat
 bytes : Nat
 zero : AV

def u8of? (n : Int) : AV := if 0 ≤ n ∧ n < 256 then .u8 (UInt8.ofNat n.toNat) else .any
def u32of? (n : Int) : AV := if 0 ≤ n ∧ n < 4294967296 then .u32 (UInt32.ofNat n.toNat) else .any
def u64of? (n : Int) : AV := if 0 ≤ n ∧ n < 18446744073709551616 then .u64 (UInt64.ofNat n.toNat) else .any
def ofVal1 : Value → AV
 | .bool b => .bool b
 | .int .i64 n => .int n
 | .int .u8 n => u8of? n
 | .int .u32 n => u32of? n
 | .int .u64 n => u64of? n
 | .string s => .str s.data.toList
 | .pointer none => .nilp
 | .slice none 0 0 => .sl true 0 0 (.agg []) true
 | .nilFunc => .nilf
 | .nilIface => .nili
 | _ => .any
def ofVal : Value → AV
 | .agg vs => if vs.toList.all (·.oneCell') then .agg (vs.toList.map ofVal1) else .any
 | v => ofVal1 v
def xof : Operand → X
 | .tmp t => .t t
 | .const v => .c (ofVal v)
 | .global _ => .c .any
 | .func f => .c (.fn f [])

def zc (A : AV) : List AV := match toC A with | some (.agg l) => l | _ => []
def ekOf : TD → EK
 | .u8 => .u8
 | .u32 => .u32
 | .int => .int
 | _ => .other
def isAggD : TD → Bool
 | .arr _ _ | .struct _ => true
 | _ => false
def lsz (i : TInf) : Option Nat := if isAggD i.d then some i.size else none

def convOf : TD → TD → Option CK
 | .int, .int => some .ii
 | .int, .u8 => some .iu8
 | .int, .u32 => some .iu32
 | .int, .u64 => some .iu64
 | .u8, .int => some .u8i
 | .u8, .u32 => some .u8u32
 | .u8, .u64 => some .u8u64
 | .u32, .int => some .u32i
 | .u32, .u8 => some .u32u8
 | .u32, .u64 => some .u32u64
 | .u64, .int => some .u64i
 | .u64, .u8 => some .u64u8
 | .u64, .u32 => some .u64u32
 | _, _ => none

def qkOf (ti : Nat → TInf) (t : Nat) : Option QK :=
 match (ti t).d with
 | .int | .u8 | .u32 | .u64 | .str => some .sc
 | .bool => some .bool
 | .slice _ => some .slice
 | .ptr => some .ptr
 | .arr n e => match (ti e).d, (ti e).size with | .u8, 1 | .u32, 1 | .int, 1 | .u64, 1 => some (.arr n) | _, _ => none
 | _ => none

def partsOf (offs : List (Nat × Nat)) : List (Nat × Operand) → Option (List (Nat × Nat × X))
 | [] => some []
 | (i, x) :: r => match offs[i]?, partsOf offs r with
   | some (o, z), some m => some ((o, z, xof x) :: m)
   | _, _ => none
def partsEl (n sz : Nat) : List (Nat × Operand) → Option (List (Nat × Nat × X))
 | [] => some []
 | (i, x) :: r => match decide (i < n), partsEl n sz r with
   | true, some m => some ((i * sz, sz, xof x) :: m)
   | _, _ => none

def zok : EK → List AV → Bool
 | .u8, [.u8 x] => x == 0
 | .u32, [.u32 x] => x == 0
 | .int, [.int x] => x == 0
 | .other, _ => true
 | _, _ => false

def compOp (ti : Nat → TInf) (mu : List Nat) (o : Oper) : IOp :=
 let m := match o.dst with | some d => mu.contains d | none => false
 match o.op with
 | .move x | .assign x => .mov (xof x)
 | .pick c a b => .pick (xof c) (xof a) (xof b)
 | .alloc e => match (ti e).d, toC (ti e).zero with
   | .other, _ => .bad
   | _, some z => .alloc z
   | _, none => .bad
 | .box _ x => .box (xof x)
 | .build t parts => match (ti t).d, (ti t).zero with
   | .struct offs, .agg z => match partsOf offs parts.toList with | some p => .build z p | none => .bad
   | .arr n e, .agg z => match (ti e).d with
     | .other => .bad
     | _ => match partsEl n (ti e).size parts.toList with | some p => .build z p | none => .bad
   | _, _ => .bad
 | .buildSlice t n parts => match (ti t).d with
   | .slice e => match (ti e).d with
     | .other => .bad
     | d => match toC (ti e).zero with
       | some (.agg z) => match partsEl n (ti e).size parts.toList with
         | some p => if n * (ti e).size ≤ 16777216 then .bsl m (ekOf d) (ti e).size n z p else .bad
         | none => .bad
       | _ => .bad
   | _ => .bad
 | .load t a => match (ti t).d with | .other => .bad | _ => .load (lsz (ti t)) (xof a)
 | .store t a v => match (ti t).d with | .other => .bad | _ => if (ti t).size = 0 then .bad else .store (lsz (ti t)) (xof a) (xof v)
 | .nilCheck x => .nilck (xof x)
 | .binOp op t x y _ => match op with
   | .eql => match qkOf ti t with | some k => .eq false k (xof x) (xof y) | none => .bad
   | .neq => match qkOf ti t with | some k => .eq true k (xof x) (xof y) | none => .bad
   | op => .bin op (xof x) (xof y)
 | .unOp op _ x => .un op (xof x)
 | .convert s d x => match (ti s).d, (ti d).d with
   | .str, .slice e => match (ti e).d with | .u8 => .conv (.strb m) (xof x) | _ => .bad
   | .slice e, .str => match (ti e).d with | .u8 => .conv .bstr (xof x) | _ => .bad
   | .slice e, .slice _ => match (ti e).d with | .u8 => if s = d then .conv .mark (xof x) else .bad | _ => .bad
   | a, b => match convOf a b with | some k => .conv k (xof x) | none => .bad
 | .makeFunc (.func f) first cap => if first.isEmpty then .mkf f (cap.toList.map xof) else if cap.isEmpty then .mkb f (first.toList.map xof) else .bad
 | .makeSlice t l c => match (ti t).d with
   | .slice e => match (ti e).d with
     | .other => .bad
     | d => match toC (ti e).zero with
       | some (.agg z) => if (ti e).size = 0 ∨ (ti e).bytes = 0 ∨ zok (ekOf d) z = false then .bad else .mksl (ekOf d) (ti e).size (ti e).bytes z (xof l) (xof c)
       | _ => .bad
   | _ => .bad
 | .slice t x lo hi mx => match (ti t).d with
   | .slice e => match (ti e).d with | .other => .bad | _ => .slcS (ti e).size (xof x) (lo.map xof) (hi.map xof) (mx.map xof)
   | .arr n e => match (ti e).d, mx with
     | .other, _ => .bad
     | _, none => .slcA n (ti e).size (xof x) (lo.map xof) (hi.map xof)
     | _, some _ => .bad
   | .str => match mx with | none => .slcT (xof x) (lo.map xof) (hi.map xof) | some _ => .bad
   | _ => .bad
 | .fieldAddr s x f => match (ti s).d with
   | .struct offs => match offs[f]? with | some (o, z) => if z = 0 then .bad else .fad o (xof x) | none => .bad
   | _ => .bad
 | .indexAddr t x i => match (ti t).d with
   | .slice e => match (ti e).d with | .other => .bad | _ => if (ti e).size = 0 then .bad else .iadS (ti e).size (xof x) (xof i)
   | .arr n e => match (ti e).d with | .other => .bad | _ => if n ≤ 1 then .bad else .iadA n (ti e).size (xof x) (xof i)
   | _ => .bad
 | .index t x i => match (ti t).d with | .str => .idx (xof x) (xof i) | _ => .bad
 | .extract x k => .ext (xof x) k
 | .makeInterface t x => match (ti t).d with | .other | .iface => .bad | _ => .mki t (xof x)
 | .call c => match c.callee with
   | .value f => .call (xof f) (c.args.toList.map xof)
   | .builtin .append => match c.args.toList, c.argTypes.toList with
     | [x, y], [t, u] => match (ti t).d with
       | .slice e => match (ti e).d with
         | .other => .bad
         | _ => match toC (ti e).zero, (match (ti u).d with | .slice _ | .str => true | _ => false) with
           | some (.agg _), true => if (ti e).size = 0 ∨ (ti e).bytes = 0 then .bad else .app (!m) (ti e).size (ti e).bytes (xof x) (xof y)
           | _, _ => .bad
       | _ => .bad
     | _, _ => .bad
   | .builtin .len => match c.args.toList, c.argTypes.toList with
     | [x], [t] => match (ti t).d with | .slice _ => .len false (xof x) | .str => .len true (xof x) | _ => .bad
     | _, _ => .bad
   | .builtin .cap => match c.args.toList, c.argTypes.toList with
     | [x], [t] => match (ti t).d with | .slice _ => .cap (xof x) | _ => .bad
     | _, _ => .bad
   | .builtin .min => match c.args.toList with
     | [x, y] => .mn (xof x) (xof y)
     | _ => .bad
   | .builtin .max => match c.args.toList with
     | [x, y] => .mx (xof x) (xof y)
     | _ => .bad
   | _ => .bad
 | _ => .bad

def kcall (pures : List Nat) (f : Nat) : Nat := if pures.contains f then 0 else match pures.find? (fun x => Nat.beq (x % 1000) f && Nat.blt 999 x) with | some x => x / 1000 | none => 2
def kls (pures : List Nat) : IOp → Nat
 | .alloc _ | .box _ | .store _ _ _ | .mksl _ _ _ _ _ _ => 2
 | .bsl m _ _ _ _ _ => if m then 2 else 0
 | .load _ _ | .slcA _ _ _ _ _ | .iadS _ _ _ => 1
 | .conv (.strb m) _ => if m then 2 else 0
 | .conv .bstr _ => 1
 | .conv .mark _ => 1
 | .app m _ _ _ _ => if m then 2 else 1
 | .call (.c (.fn f [])) _ => kcall pures f
 | .call _ _ => 2
 | _ => 0

structure CO where
 d : Option Nat
 o : IOp
 g : Option (Nat × Bool)
 c : Nat
inductive CC where
 | skip | ret | bad
 | reg (ops : List CO) (cf : List (Nat × Nat))
 | alt (ops : List CO) (cf : List (Nat × Nat)) (l : List (List CO × List (Nat × Nat)))
 | seq (a b : CC)
 | cond (x : X) (a b : CC)
 | block (id : Nat) (c : CC)
 | loop (c : CC)
 | exit (id : Nat)
 | rangeF (f : X) (ps : List Nat) (assign body : CC)

def gof (ops : Array Oper) (o : Oper) : Option (Option (Nat × Bool)) :=
 match o.guard with
 | none => some none
 | some (j, b) => match (ops[j]?).bind (·.dst) with | some d => some (some (d, b)) | none => none
def compOps (ti : Nat → TInf) (mu pures : List Nat) (draw : Bool) (N : Nat) (all : Array Oper) : List Oper → Option (List CO)
 | [] => some []
 | o :: r => match gof all o, compOps ti mu pures draw N all r, (match o.dst with | some d => decide (d < N) | none => true) with
   | some g, some l, true => some (⟨o.dst, compOp ti mu o, g, if draw then kls pures (compOp ti mu o) else 2⟩ :: l)
   | _, _, _ => none

def xslots : List X → List Nat
 | [] => []
 | .t n :: r => n :: xslots r
 | .c _ :: r => xslots r
def oslots : Option X → List Nat
 | some (.t n) => [n]
 | _ => []
def looks : IOp → List Nat
 | .mov x | .box x | .load _ x | .nilck x | .un _ x | .conv _ x | .fad _ x | .ext x _ | .len _ x | .cap x | .mki _ x => xslots [x]
 | .pick a b c => xslots [a, b, c]
 | .alloc _ | .bad => []
 | .build _ ps | .bsl _ _ _ _ _ ps => xslots (ps.map (·.2.2))
 | .store _ a v => xslots [a, v]
 | .bin _ x y | .eq _ _ x y | .iadA _ _ x y | .iadS _ x y | .idx x y | .app _ _ _ x y | .mn x y | .mx x y | .mksl _ _ _ _ x y => xslots [x, y]
 | .mkf _ c => xslots c
 | .mkb _ c => xslots c
 | .slcS _ x a b c => xslots [x] ++ oslots a ++ oslots b ++ oslots c
 | .slcA _ _ x a b => xslots [x] ++ oslots a ++ oslots b
 | .slcT x a b => xslots [x] ++ oslots a ++ oslots b
 | .call f as => xslots (f :: as)
def cslot (c : Nat) : List Nat := match Nat.ble 5 c with | true => [c - 5] | false => []
def COlooks (o : CO) : List Nat := ((match o.g with | some (d, _) => [d] | none => []) ++ cslot o.c) ++ looks o.o

def maskOf (acc : Array Nat) (o : Oper) : Nat := o.after.toList.foldl (fun s e => if Region.binds .any e then s ||| 2 ^ e.on ||| acc.getD e.on 0 else s) 0
def befores (ops : Array Oper) : Nat → Array Nat
 | 0 => #[]
 | n + 1 => (befores ops n).push (match ops[n]? with | some o => maskOf (befores ops n) o | none => 0)
def backOK (ops : Array Oper) : Bool := (List.range ops.size).all fun i => match ops[i]? with | some o => o.after.all fun e => !Region.binds .any e || decide (e.on < i) | none => true

def ordered (bf : Array Nat) (i j : Nat) : Bool := (bf.getD j 0).testBit i

def slotsApart (a b : CO) : Bool :=
 (match a.d with | some d => !(COlooks b).contains d && b.d != some d | none => true) &&
 (match b.d with | some d => !(COlooks a).contains d | none => true)
def readsC (c : Nat) : Bool := c == 1 || c == 3
def keepsL (a b : CO) : Bool := match a.o with | .load _ (.t p) => a.c == 1 && b.c == p + 5 | _ => false
def apart (a b : CO) : Bool := slotsApart a b && ((a.c == 0 || b.c == 0 || (readsC a.c && readsC b.c)) || (keepsL a b || keepsL b a))
def writersOK (cs : List CO) (p k : Nat) : Bool := (List.range cs.length).all fun w => match cs[w]? with | some o => o.d != some p || decide (w < k) | none => true
def wslot : IOp → Option Nat
 | .store _ (.t q) _ => some q
 | _ => none
def rslot : IOp → Option Nat
 | .load _ (.t p) => some p
 | .iadS _ (.t p) _ => some p
 | .conv .mark (.t p) => some p
 | _ => none
def mslot (o : CO) : Option Nat := match o.g with
 | none => match o.o with
   | .bsl true _ _ _ _ _ => match o.c with | 2 => o.d | _ => none
   | .app true _ _ _ _ => match o.c with | 2 => o.d | _ => none
   | _ => none
 | some _ => none
def bslot : IOp → Option Nat
 | .load _ (.t p) => some p
 | .iadS _ (.t p) _ => some p
 | .conv .mark (.t p) => some p
 | .conv .bstr (.t p) => some p
 | _ => none
def confV (cs : List CO) (i j : Nat) (a b : CO) : Option (Nat × Nat) :=
 match rslot a.o with
 | some p => if slotsApart a b && a.c == 1 && writersOK cs p i then some (p, p) else none
 | none => match rslot b.o with
   | some p => if slotsApart a b && b.c == 1 && writersOK cs p j then some (p, p) else none
   | none => none
def confM (cs : List CO) (i j : Nat) (a b : CO) : Option (Nat × Nat) :=
 match bslot a.o, mslot b with
 | some p, some q => if slotsApart a b && a.c == 1 && writersOK cs p i && writersOK cs q (j + 1) then some (p, q) else none
 | _, _ => match mslot a, bslot b.o with
   | some q, some p => if slotsApart a b && b.c == 1 && writersOK cs p j && writersOK cs q (i + 1) then some (p, q) else none
   | _, _ => confV cs i j a b
def confOf (cs : List CO) (i j : Nat) (a b : CO) : Option (Nat × Nat) :=
 match rslot a.o, wslot b.o with
 | some p, some q => if slotsApart a b && a.c == 1 && writersOK cs p i && writersOK cs q j then some (p, q) else none
 | _, _ => match wslot a.o, rslot b.o with
   | some q, some p => if slotsApart a b && b.c == 1 && writersOK cs p j && writersOK cs q i then some (p, q) else none
   | _, _ => confM cs i j a b
def confs (ops : Array Oper) (cs : List CO) : List (Nat × Nat) :=
 let bf := befores ops ops.size
 (List.range ops.size).flatMap fun j => (List.range j).filterMap fun i => match cs[i]?, cs[j]? with
   | some a, some b => if ordered bf i j || apart a b then none else confOf cs i j a b
   | _, _ => none
def orderOK (ops : Array Oper) (cs : List CO) (cf : List (Nat × Nat)) : Bool :=
 let bf := befores ops ops.size
 backOK ops && (List.range ops.size).all fun j => (List.range j).all fun i => match cs[i]?, cs[j]? with
  | some a, some b => ordered bf i j || apart a b || (match confOf cs i j a b with | some x => cf.contains x | none => false)
  | _, _ => false

def mvS (i j p : Nat) : Nat := if p < i then p else if p = i then j else if p ≤ j then p - 1 else p
def mvP (i j x : Nat) : Nat := if x < i then x else if x = j then i else if x < j then x + 1 else x
def permC (i j : Nat) (cs : List CO) : List CO := (List.range cs.length).map fun p => cs.getD (mvS i j p) ⟨none, .bad, none, 2⟩
def exB (j : Nat) (cr : List Nat) (a b : Nat) : Bool := (a == j && cr.contains b) || (b == j && cr.contains a)
def confsX (j : Nat) (cr : List Nat) (σ : Nat → Nat) (ops : Array Oper) (cs : List CO) : List (Nat × Nat) :=
 let bf := befores ops ops.size
 (List.range ops.size).flatMap fun q => (List.range q).filterMap fun p => match cs[p]?, cs[q]? with
   | some a, some b => if ordered bf (σ p) (σ q) || exB j cr (σ p) (σ q) || apart a b then none else confOf cs p q a b
   | _, _ => none
def orderX (j : Nat) (cr : List Nat) (σ : Nat → Nat) (ops : Array Oper) (cs : List CO) (cf : List (Nat × Nat)) : Bool :=
 let bf := befores ops ops.size
 backOK ops && (List.range ops.size).all fun q => (List.range q).all fun p => match cs[p]?, cs[q]? with
  | some a, some b => ordered bf (σ p) (σ q) || exB j cr (σ p) (σ q) || apart a b || (match confOf cs p q a b with | some x => cf.contains x | none => false)
  | _, _ => false
def altJ (cs : List CO) : Nat := (cs.findIdx? fun c => match c.o with | .alloc _ => true | _ => false).getD 0
def critOf (ops : Array Oper) (cs : List CO) (j : Nat) : List Nat :=
 let bf := befores ops ops.size
 (List.range j).filter fun i => match cs[i]?, cs[j]? with | some a, some b => !ordered bf i j && !apart a b | _, _ => false
def altOK (ops : Array Oper) (cs : List CO) (j : Nat) (cr : List Nat) : Bool :=
 let bf := befores ops ops.size
 (decide (j < ops.size) && cr.all fun c => decide (c < j) && cr.all fun c' => !decide (c < c') || ordered bf c c') && (orderX j cr (fun p => p) ops cs (confsX j cr (fun p => p) ops cs) && cr.all fun c => orderX j cr (mvS c j) ops (permC c j cs) (confsX j cr (mvS c j) ops (permC c j cs)))
def altC (ops : Array Oper) (cs : List CO) (j : Nat) (cr : List Nat) : CC :=
 if altOK ops cs j cr then .alt cs (confsX j cr (fun p => p) ops cs) (cr.map fun c => (permC c j cs, confsX j cr (mvS c j) ops (permC c j cs))) else .bad

def comp (ti : Nat → TInf) (mu pures : List Nat) (N : Nat) : Code → CC
 | .skip => .skip
 | .ret => .ret
 | .region _ ops draw => match compOps ti mu pures draw N ops ops.toList with
   | some l => match draw with
     | false => .reg l []
     | true => if orderOK ops l (confs ops l) then .reg l (confs ops l)
       else altC ops l (altJ l) (critOf ops l (altJ l))
   | none => .bad
 | .seq a b => .seq (comp ti mu pures N a) (comp ti mu pures N b)
 | .cond x a b => .cond (xof x) (comp ti mu pures N a) (comp ti mu pures N b)
 | .block id c => .block id (comp ti mu pures N c)
 | .loop c => .loop (comp ti mu pures N c)
 | .exit id => .exit id
 | .rangeFunc f ps a b => .rangeF (xof f) ps.toList (comp ti mu pures N a) (comp ti mu pures N b)
 | _ => .bad


def Desc (P : Program) (T : TypeId) : TD → Prop
 | .bool => P.underlying T = some .bool
 | .int => P.underlying T = some (.int .i64)
 | .u8 => P.underlying T = some (.int .u8)
 | .u32 => P.underlying T = some (.int .u32)
 | .u64 => P.underlying T = some (.int .u64)
 | .str => P.underlying T = some .string
 | .ptr => ∃ e, P.underlying T = some (.pointer e)
 | .slice e => P.underlying T = some (.slice e)
 | .arr n e => P.underlying T = some (.array n e)
 | .struct offs => ∃ fs : Array Field, P.underlying T = some (.struct fs) ∧ fs.toList.mapM (fun f => (P.info? f.type).map fun i => (f.offset, i.size)) = some offs
 | .func => ∃ a b c, P.underlying T = some (.func a b c)
 | .iface => ∃ ms, P.underlying T = some (.interface ms)
 | .tuple => ∃ es, P.underlying T = some (.tuple es)
 | .other => True
structure TYok (P : Program) (T : TypeId) (i : TInf) : Prop where
 info : ∃ info z, P.info? T = some info ∧ info.size = i.size ∧ info.bytes = i.bytes ∧ info.zero = some z ∧ (∀ E, rel E i.zero z) ∧ z.cells.size = i.size
 desc : Desc P T i.d
 one : isAggD i.d = false → i.size = 1
def TIok (P : Program) (ti : Nat → TInf) : Prop := ∀ T, (∃ h : (ti T).d = .other, True) ∨ TYok P T (ti T)

theorem TIok.get {P : Program} {ti : Nat → TInf} (h : TIok P ti) {T : Nat} {d : TD} (hd : (ti T).d = d) (hn : d ≠ .other) : TYok P T (ti T) := by
 rcases h T with ⟨h, _⟩ | h
 ·rw [hd] at h; exact absurd h hn
 ·exact h

section runs
variable {P : Program} (w : World)
theorem run_tinfo {T : TypeId} {i : TypeInfo} (h : P.info? T = some i) : (typeInfo T).run P w = .ok i w := by simp [typeInfo, h]
theorem run_size {T : TypeId} {i : TypeInfo} (h : P.info? T = some i) : (sizeOf T).run P w = .ok i.size w := by simp [sizeOf, run_tinfo w h]
theorem run_zero {T : TypeId} {i : TypeInfo} {z : Value} (h : P.info? T = some i) (hz : i.zero = some z) : (zeroValue T).run P w = .ok z w := by simp [zeroValue, run_tinfo w h, hz]
theorem run_isAgg {T : TypeId} {d : TypeDesc} (h : P.underlying T = some d) : (isAgg T).run P w = .ok (match d with | .struct _ => true | .array _ _ => true | _ => false) w := by
 simp only [isAgg, Sem.run_bind, run_underlying h, Result.andThen_ok]
 cases d <;> rfl
end runs

theorem Desc.agg {P : Program} {T : TypeId} {d : TD} (h : Desc P T d) (hn : d ≠ .other) (w : World) : (isAgg T).run P w = .ok (isAggD d) w := by
 cases d <;> simp only [Desc] at h
 case other => exact absurd rfl hn
 case ptr => obtain ⟨e, h⟩ := h; rw [run_isAgg w h]; rfl
 case struct => obtain ⟨fs, h, _⟩ := h; rw [run_isAgg w h]; rfl
 case func => obtain ⟨_, _, _, h⟩ := h; rw [run_isAgg w h]; rfl
 case iface => obtain ⟨_, h⟩ := h; rw [run_isAgg w h]; rfl
 case tuple => obtain ⟨_, h⟩ := h; rw [run_isAgg w h]; rfl
 all_goals (rw [run_isAgg w h]; rfl)

def Gives (P : Program) (o : Oper) (a : Act) (w : World) (R : Value → World → Prop) : Prop :=
 (∃ v w', (execOp a.eval o).run P w = .ok (.value v) w' ∧ R v w') ∨
 (∃ w', (execOp a.eval o).run P w = .ok .skip w' ∧ R undef w') ∨
 (∃ f args, (execOp a.eval o).run P w = .ok (.enter f args) w ∧ Calls P f args w (fun e w' => ∃ v, e = .returned v ∧ R v w'))

def Post (B : Base) (E : Env) (h' : List AO) (A : AV) (v : Value) (w' : World) : Prop := ∃ E', E.le E' ∧ Mem B E' h' w' ∧ rel E' A v

def ACalls (P : Program) (f : FuncId) (args : List AV) (h : List AO) (K : AV → List AO → Prop) : Prop :=
 ∀ (E : Env) (w : World) (vs : List Value), relL E args vs → Mem ⟨w, E, fun b => (∃ i ob s, h[i]? = some ob ∧ ob.fz = false ∧ E.ι i = some (b, s) ∧ 0 < s) ∨ E.wl b ≠ 0, noX⟩ E h w →
  Calls P f vs.toArray w (fun e w' => ∃ v r h' E', e = .returned v ∧ K r h' ∧ h.length ≤ h'.length ∧
   Mem ⟨w, E, fun b => (∃ i ob s, h[i]? = some ob ∧ ob.fz = false ∧ E.ι i = some (b, s) ∧ 0 < s) ∨ E.wl b ≠ 0, noX⟩ E' h' w' ∧ rel E' r v)

def SpE.ok (P : Program) (g : Nat) (e : SpE) : Prop := ∀ args h, match e.f args h with
 | .v C A => holds C → ACalls P g args h (fun r h' => r = A ∧ h' = h)
 | .e C A h1 => holds C → ACalls P g args h (fun r h' => r = A ∧ h' = h1)
 | .k _ _ => False
 | .no => True
def SpOK (P : Program) (sp : Sp) : Prop := ∀ g e, sfind sp g = some e → SpE.ok P g e ∧ (∀ args w, (callFunc g args).run P w = .ok (.enter g args) w)

section
variable {P : Program} {ti : Nat → TInf} {B : Base} {E : Env} {h : List AO} {w : World} {g : Nat → AV} {a : Act} {o : Oper}

theorem gives_value {R : Value → World → Prop} {v : Value} {w' : World} (h1 : (execOp a.eval o).run P w = .ok (.value v) w') (h2 : R v w') : Gives P o a w R := .inl ⟨v, w', h1, h2⟩
theorem gives_same (m : Mem B E h w) {A : AV} {v : Value} (h1 : (execOp a.eval o).run P w = .ok (.value v) w) (h2 : rel E A v) : Gives P o a w (Post B E h A) :=
 gives_value h1 ⟨E, Env.le.refl E, m, h2⟩

theorem rel_u8of (E : Env) (n : Int) : rel E (u8of? n) (.int .u8 n) := by
 unfold u8of?
 split
 ·rename_i hn
  simp only [rel, u8v]
  congr 1
  rw [UInt8.toNat_ofNat', Nat.mod_eq_of_lt (by omega)]; omega
 ·simp only [rel]
theorem rel_u32of (E : Env) (n : Int) : rel E (u32of? n) (.int .u32 n) := by
 unfold u32of?
 split
 ·rename_i hn
  simp only [rel, u32v]
  congr 1
  rw [UInt32.toNat_ofNat', Nat.mod_eq_of_lt (by omega)]; omega
 ·simp only [rel]
theorem rel_u64of (E : Env) (n : Int) : rel E (u64of? n) (.int .u64 n) := by
 unfold u64of?
 split
 ·rename_i hn
  simp only [rel, u64v]
  congr 1
  rw [UInt64.toNat_ofNat', Nat.mod_eq_of_lt (by omega)]; omega
 ·simp only [rel]
theorem rel_ofVal1 (E : Env) : ∀ v, rel E (ofVal1 v) v := by
 intro v
 unfold ofVal1
 split <;> first
  | (simp only [rel]; done)
  | exact rel_u8of E _
  | exact rel_u32of E _
  | exact rel_u64of E _
  | (simp only [rel, intv]; done)
  | (simp only [rel, relC, relL, ones, if_true]; simp)
theorem relL_ofVal1 (E : Env) : ∀ vs : List Value, relL E (vs.map ofVal1) vs
 | [] => by simp only [List.map_nil, relL]
 | v :: vs => by simp only [List.map_cons, relL]; exact ⟨v, vs, rfl, rel_ofVal1 E v, relL_ofVal1 E vs⟩
theorem rel_ofVal (E : Env) (v : Value) : rel E (ofVal v) v := by
 unfold ofVal
 split
 ·rename_i vs
  split
  ·rename_i hall
   simp only [rel]
   exact ⟨vs, rfl, relL_ofVal1 E _, fun u hu => List.all_eq_true.1 hall u hu⟩
  ·simp only [rel]
 ·exact rel_ofVal1 E _

theorem rel_x (hg : ∀ k, rel E (g k) (a.tmps.getD k undef)) (x : Operand) : rel E (xv g (xof x)) (a.eval x) := by
 cases x with
 | tmp t => exact hg t
 | const v => exact rel_ofVal E v
 | global n => simp only [xof, xv, rel]
 | func f => simp only [xof, xv, rel, Act.eval]; exact ⟨#[], rfl, by simp only [relL]⟩

theorem wrap_nat {k : IntKind} (hs : k.signed = false) (n : Int) : k.wrap n = n % (2 ^ k.bits : Int) := by
 simp [IntKind.wrap, hs]
theorem u8_ofInt (n : Int) : ((UInt8.ofInt n).toNat : Int) = n % 256 := by
 unfold UInt8.ofInt; rw [UInt8.toNat_ofNat']; omega
theorem u32_ofInt (n : Int) : ((UInt32.ofInt n).toNat : Int) = n % 4294967296 := by
 unfold UInt32.ofInt; rw [UInt32.toNat_ofNat']; omega
theorem u64_ofInt (n : Int) : ((UInt64.ofInt n).toNat : Int) = n % 18446744073709551616 := by
 unfold UInt64.ofInt; rw [UInt64.toNat_ofNat']; omega
theorem u8_wrap (n : Int) : IntKind.u8.wrap n = n % 256 := by rw [wrap_nat rfl]; simp [IntKind.bits]
theorem u32_wrap (n : Int) : IntKind.u32.wrap n = n % 4294967296 := by rw [wrap_nat rfl]; simp [IntKind.bits]
theorem u64_wrap (n : Int) : IntKind.u64.wrap n = n % 18446744073709551616 := by rw [wrap_nat rfl]; simp [IntKind.bits]

theorem beq_u8 (a b : UInt8) : ((a.toNat : Int) == (b.toNat : Int)) = (a == b) := by
 rw [Bool.eq_iff_iff]; simp only [beq_iff_eq]; exact ⟨fun h => UInt8.toNat_inj.1 (by omega), fun h => by rw [h]⟩
theorem beq_u32 (a b : UInt32) : ((a.toNat : Int) == (b.toNat : Int)) = (a == b) := by
 rw [Bool.eq_iff_iff]; simp only [beq_iff_eq]; exact ⟨fun h => UInt32.toNat_inj.1 (by omega), fun h => by rw [h]⟩
theorem beq_u64 (a b : UInt64) : ((a.toNat : Int) == (b.toNat : Int)) = (a == b) := by
 rw [Bool.eq_iff_iff]; simp only [beq_iff_eq]; exact ⟨fun h => UInt64.toNat_inj.1 (by omega), fun h => by rw [h]⟩

theorem and_u8 (a b : UInt8) : (BitVec.ofInt 8 (a.toNat : Int) &&& BitVec.ofInt 8 (b.toNat : Int)).toNat = (a &&& b).toNat := by
 rw [BitVec.ofInt_natCast, BitVec.ofInt_natCast, BitVec.toNat_and, UInt8.toNat_and]; simp
theorem or_u8 (a b : UInt8) : (BitVec.ofInt 8 (a.toNat : Int) ||| BitVec.ofInt 8 (b.toNat : Int)).toNat = (a ||| b).toNat := by
 rw [BitVec.ofInt_natCast, BitVec.ofInt_natCast, BitVec.toNat_or, UInt8.toNat_or]; simp
theorem xor_u8 (a b : UInt8) : (BitVec.ofInt 8 (a.toNat : Int) ^^^ BitVec.ofInt 8 (b.toNat : Int)).toNat = (a ^^^ b).toNat := by
 rw [BitVec.ofInt_natCast, BitVec.ofInt_natCast, BitVec.toNat_xor, UInt8.toNat_xor]; simp
theorem and_u32 (a b : UInt32) : (BitVec.ofInt 32 (a.toNat : Int) &&& BitVec.ofInt 32 (b.toNat : Int)).toNat = (a &&& b).toNat := by
 rw [BitVec.ofInt_natCast, BitVec.ofInt_natCast, BitVec.toNat_and, UInt32.toNat_and]; simp
theorem or_u32 (a b : UInt32) : (BitVec.ofInt 32 (a.toNat : Int) ||| BitVec.ofInt 32 (b.toNat : Int)).toNat = (a ||| b).toNat := by
 rw [BitVec.ofInt_natCast, BitVec.ofInt_natCast, BitVec.toNat_or, UInt32.toNat_or]; simp
theorem xor_u32 (a b : UInt32) : (BitVec.ofInt 32 (a.toNat : Int) ^^^ BitVec.ofInt 32 (b.toNat : Int)).toNat = (a ^^^ b).toNat := by
 rw [BitVec.ofInt_natCast, BitVec.ofInt_natCast, BitVec.toNat_xor, UInt32.toNat_xor]; simp
theorem and_u64 (a b : UInt64) : (BitVec.ofInt 64 (a.toNat : Int) &&& BitVec.ofInt 64 (b.toNat : Int)).toNat = (a &&& b).toNat := by
 rw [BitVec.ofInt_natCast, BitVec.ofInt_natCast, BitVec.toNat_and, UInt64.toNat_and]; simp
theorem or_u64 (a b : UInt64) : (BitVec.ofInt 64 (a.toNat : Int) ||| BitVec.ofInt 64 (b.toNat : Int)).toNat = (a ||| b).toNat := by
 rw [BitVec.ofInt_natCast, BitVec.ofInt_natCast, BitVec.toNat_or, UInt64.toNat_or]; simp
theorem xor_u64 (a b : UInt64) : (BitVec.ofInt 64 (a.toNat : Int) ^^^ BitVec.ofInt 64 (b.toNat : Int)).toNat = (a ^^^ b).toNat := by
 rw [BitVec.ofInt_natCast, BitVec.ofInt_natCast, BitVec.toNat_xor, UInt64.toNat_xor]; simp

theorem shn_ok {y : AV} {u : Value} {C : Option Prop} {n : Nat} (hy : rel E y u) (h : shn y = some (C, n)) (hC : holds C) : ∃ k m, u = .int k m ∧ 0 ≤ m ∧ m.toNat = n := by
 cases y <;> simp only [shn, reduceCtorEq, Option.some.injEq, Prod.mk.injEq] at h <;> obtain ⟨rfl, rfl⟩ := h <;> simp only [rel] at hy
 ·exact ⟨_, _, hy, hC, rfl⟩
 ·exact ⟨_, _, hy, by omega, by omega⟩
 ·exact ⟨_, _, hy, by omega, by omega⟩
 ·exact ⟨_, _, hy, by omega, by omega⟩

theorem evBin_ok {op : BinOp} {x y A : AV} {C : Option Prop} {u v : Value} {T : TypeId} (hx : rel E x u) (hy : rel E y v) (h : evBin op x y = .v C A) (hC : holds C) :
  ∃ r, (binOp op T u v).run P w = .ok r w ∧ rel E A r ∧ op ≠ .eql ∧ op ≠ .neq := by
 have sh : ∀ {k : IntKind} {m : Int} {n : Nat} {x' : Int}, 0 ≤ m → m.toNat = n → (Op.shift .shl k x' .i64 m).run P w = .ok (.int k (k.wrap (x' * 2 ^ min n k.bits))) w ∧ (Op.shift .shr k x' .i64 m).run P w = .ok (.int k (x' / 2 ^ min n k.bits)) w := fun {k m n x'} h0 h1 => by
  subst h1
  simp only [Op.shift, if_neg (show ¬ m < 0 by omega)]
  refine ⟨rfl, ?_⟩
  show Result.ok _ _ = _
  rw [Int.fdiv_eq_ediv_of_nonneg _ (Int.pow_nonneg (by omega))]
 cases op
 case add =>
  simp only [evBin] at h
  split at h <;> cases h <;> (try (simp only [rel, intv, u8v, u32v, u64v] at hx hy; subst hx hy; refine ⟨_, rfl, ?_, by decide, by decide⟩; simp only [rel, intv, u8v, u32v, u64v, w64]))
  ·rw [u8_wrap, UInt8.toNat_add]; congr 1
  ·rw [u32_wrap, UInt32.toNat_add]; congr 1
  ·rw [u64_wrap, UInt64.toNat_add]; congr 1
  ·rename_i a b
   simp only [rel] at hx hy
   obtain ⟨s, rfl, hs⟩ := hx
   obtain ⟨t, rfl, ht⟩ := hy
   have e1 : s.size = a.length := by rw [← hs]; rfl
   have e2 : t.size = b.length := by rw [← ht]; rfl
   have hC : (a.length : Int) + (b.length : Int) ≤ 9223372036854775807 := hC
   have hm : IntKind.i64.max = 9223372036854775807 := rfl
   refine ⟨.string (s ++ t), ?_, ?_, by decide, by decide⟩
   ·show (Op.stringOp .add s t).run P w = _
    simp only [Op.stringOp]
    rw [if_neg (by rw [hm, e1, e2]; omega)]
    rfl
   ·simp only [rel]
    exact ⟨_, rfl, by rw [← hs, ← ht]; simp [ByteArray.data_append]⟩
  ·rename_i b
   simp only [rel] at hx hy
   obtain ⟨a, rfl⟩ := hx
   subst hy
   refine ⟨_, rfl, ?_, by decide, by decide⟩
   simp only [rel]
   refine ⟨a + b, ?_⟩
   simp only [u8v]
   rw [u8_wrap, UInt8.toNat_add]; congr 1
 case sub =>
  simp only [evBin] at h
  split at h <;> cases h <;> (simp only [rel, intv, u8v, u32v, u64v] at hx hy; subst hx hy; refine ⟨_, rfl, ?_, by decide, by decide⟩; simp only [rel, intv, u8v, u32v, u64v, w64])
  ·rename_i a b; have := UInt8.toNat_lt b; rw [u8_wrap, UInt8.toNat_sub]; congr 1; omega
  ·rename_i a b; have := UInt32.toNat_lt b; rw [u32_wrap, UInt32.toNat_sub]; congr 1; omega
  ·rename_i a b; have := UInt64.toNat_lt b; rw [u64_wrap, UInt64.toNat_sub]; congr 1; omega
 case mul =>
  simp only [evBin] at h
  split at h <;> cases h <;> (simp only [rel, intv, u8v, u32v, u64v] at hx hy; subst hx hy; refine ⟨_, rfl, ?_, by decide, by decide⟩; simp only [rel, intv, u8v, u32v, u64v, w64])
  ·rw [u32_wrap, UInt32.toNat_mul]; congr 1
  ·rw [u64_wrap, UInt64.toNat_mul]; congr 1
 case quo =>
  simp only [evBin] at h
  split at h <;> cases h
  rename_i a b
  simp only [rel, intv] at hx hy; subst hx hy
  simp only [holds] at hC
  refine ⟨Value.int .i64 (IntKind.i64.wrap (Int.tdiv a b)), ?_, ?_, by decide, by decide⟩
  ·simp only [binOp, Op.intDiv, if_neg hC]; rfl
  ·simp only [rel, intv, w64]
 case rem =>
  simp only [evBin] at h
  split at h <;> cases h
  rename_i a b
  simp only [rel, intv] at hx hy; subst hx hy
  simp only [holds] at hC
  refine ⟨Value.int .i64 (Int.tmod a b), ?_, ?_, by decide, by decide⟩
  ·simp only [binOp, Op.intDiv, if_neg hC]; rfl
  ·simp only [rel, intv, w64]
 case and =>
  simp only [evBin] at h
  split at h <;> cases h <;> (simp only [rel, intv, u8v, u32v, u64v] at hx hy; subst hx hy; refine ⟨_, rfl, ?_, by decide, by decide⟩; simp only [rel, intv, u8v, u32v, u64v, iand])
  ·rfl
  ·rename_i a b; have := UInt8.toNat_lt (a &&& b); rw [u8_wrap]; show Value.int .u8 (((BitVec.ofInt 8 (a.toNat : Int) &&& BitVec.ofInt 8 (b.toNat : Int)).toNat : Int) % 256) = _; rw [and_u8]; congr 1; omega
  ·rename_i a b; have := UInt32.toNat_lt (a &&& b); rw [u32_wrap]; show Value.int .u32 (((BitVec.ofInt 32 (a.toNat : Int) &&& BitVec.ofInt 32 (b.toNat : Int)).toNat : Int) % 4294967296) = _; rw [and_u32]; congr 1; omega
  ·rename_i a b; have := UInt64.toNat_lt (a &&& b); rw [u64_wrap]; show Value.int .u64 (((BitVec.ofInt 64 (a.toNat : Int) &&& BitVec.ofInt 64 (b.toNat : Int)).toNat : Int) % 18446744073709551616) = _; rw [and_u64]; congr 1; omega
 case or =>
  simp only [evBin] at h
  split at h <;> cases h <;> (simp only [rel, intv, u8v, u32v, u64v] at hx hy; subst hx hy; refine ⟨_, rfl, ?_, by decide, by decide⟩; simp only [rel, intv, u8v, u32v, u64v, ior])
  ·rfl
  ·rename_i a b; have := UInt8.toNat_lt (a ||| b); rw [u8_wrap]; show Value.int .u8 (((BitVec.ofInt 8 (a.toNat : Int) ||| BitVec.ofInt 8 (b.toNat : Int)).toNat : Int) % 256) = _; rw [or_u8]; congr 1; omega
  ·rename_i a b; have := UInt32.toNat_lt (a ||| b); rw [u32_wrap]; show Value.int .u32 (((BitVec.ofInt 32 (a.toNat : Int) ||| BitVec.ofInt 32 (b.toNat : Int)).toNat : Int) % 4294967296) = _; rw [or_u32]; congr 1; omega
  ·rename_i a b; have := UInt64.toNat_lt (a ||| b); rw [u64_wrap]; show Value.int .u64 (((BitVec.ofInt 64 (a.toNat : Int) ||| BitVec.ofInt 64 (b.toNat : Int)).toNat : Int) % 18446744073709551616) = _; rw [or_u64]; congr 1; omega
 case xor =>
  simp only [evBin] at h
  split at h <;> cases h <;> (simp only [rel, intv, u8v, u32v, u64v] at hx hy; subst hx hy; refine ⟨_, rfl, ?_, by decide, by decide⟩; simp only [rel, intv, u8v, u32v, u64v, ixor])
  ·rfl
  ·rename_i a b; have := UInt8.toNat_lt (a ^^^ b); rw [u8_wrap]; show Value.int .u8 (((BitVec.ofInt 8 (a.toNat : Int) ^^^ BitVec.ofInt 8 (b.toNat : Int)).toNat : Int) % 256) = _; rw [xor_u8]; congr 1; omega
  ·rename_i a b; have := UInt32.toNat_lt (a ^^^ b); rw [u32_wrap]; show Value.int .u32 (((BitVec.ofInt 32 (a.toNat : Int) ^^^ BitVec.ofInt 32 (b.toNat : Int)).toNat : Int) % 4294967296) = _; rw [xor_u32]; congr 1; omega
  ·rename_i a b; have := UInt64.toNat_lt (a ^^^ b); rw [u64_wrap]; show Value.int .u64 (((BitVec.ofInt 64 (a.toNat : Int) ^^^ BitVec.ofInt 64 (b.toNat : Int)).toNat : Int) % 18446744073709551616) = _; rw [xor_u64]; congr 1; omega
 case shl =>
  simp only [evBin] at h
  split at h
  ·rename_i C' n hs
   split at h <;> cases h
   all_goals
    obtain ⟨k, m, rfl, h0, h1⟩ := shn_ok hy hs hC
    simp only [rel, intv, u8v, u32v, u64v] at hx; subst hx
    refine ⟨_, (sh h0 h1).1, ?_, by decide, by decide⟩
    simp only [rel, intv, u8v, u32v, u64v, w64, IntKind.bits]
   ·rw [u8_wrap, UInt8.toNat_ofNat']; congr 1
   ·rw [u32_wrap, UInt32.toNat_ofNat']; congr 1
   ·rw [u64_wrap, UInt64.toNat_ofNat']; congr 1
  ·cases h
 case shr =>
  simp only [evBin] at h
  split at h
  ·rename_i C' n hs
   split at h <;> cases h
   all_goals
    obtain ⟨k, m, rfl, h0, h1⟩ := shn_ok hy hs hC
    simp only [rel, intv, u8v, u32v, u64v] at hx; subst hx
    refine ⟨_, (sh h0 h1).2, ?_, by decide, by decide⟩
    simp only [rel, intv, u8v, u32v, u64v, IntKind.bits]
   ·rename_i a; have := UInt8.toNat_lt a; have := Nat.div_le_self a.toNat (2 ^ min n 8); rw [UInt8.toNat_ofNat', Nat.mod_eq_of_lt (by omega)]; simp
   ·rename_i a; have := UInt32.toNat_lt a; have := Nat.div_le_self a.toNat (2 ^ min n 32); rw [UInt32.toNat_ofNat', Nat.mod_eq_of_lt (by omega)]; simp
   ·rename_i a; have := UInt64.toNat_lt a; have := Nat.div_le_self a.toNat (2 ^ min n 64); rw [UInt64.toNat_ofNat', Nat.mod_eq_of_lt (by omega)]; simp
  ·cases h
 case andNot => simp only [evBin, reduceCtorEq] at h
 case eql => simp only [evBin, reduceCtorEq] at h
 case neq => simp only [evBin, reduceCtorEq] at h
 all_goals
  simp only [evBin] at h
  split at h <;> cases h <;> first
   | (simp only [rel, intv, u8v, u32v, u64v] at hx hy; subst hx hy; refine ⟨_, rfl, ?_, by decide, by decide⟩; first | (simp only [rel]; done) | (simp only [rel]; congr 1; rw [decide_eq_decide]; omega))
   | (simp only [rel] at hx hy
      obtain ⟨s, rfl, hs⟩ := hx
      obtain ⟨t, rfl, ht⟩ := hy
      refine ⟨_, rfl, ?_, by decide, by decide⟩
      simp only [rel, ByteArray.toList_eq, hs, ht])

theorem eq1_ok {x y : AV} {u v : Value} {b : Bool} (hx : rel E x u) (hy : rel E y v) (h : eq1 x y = some b) : ∃ k p q, u = .int k p ∧ v = .int k q ∧ (p == q) = b := by
 unfold eq1 at h
 split at h <;> cases h <;> simp only [rel] at hx hy
 ·exact ⟨_, _, _, hx, hy, rfl⟩
 ·exact ⟨_, _, _, hx, hy, beq_u8 _ _⟩
 ·exact ⟨_, _, _, hx, hy, beq_u32 _ _⟩
 ·exact ⟨_, _, _, hx, hy, beq_u64 _ _⟩

theorem run_eql_q (neq : Bool) (T : TypeId) {u v : Value} {b : Bool} (h : (∃ k p q, u = .int k p ∧ v = .int k q ∧ (p == q) = b) ∨ (∃ p q : ByteArray, u = .string p ∧ v = .string q ∧ (p.toList == q.toList) = b)) :
  (binOp (if neq then .neq else .eql) T u v).run P w = .ok (.bool (ngt neq b)) w := by
 rcases h with ⟨k, p, q, rfl, rfl, rfl⟩ | ⟨p, q, rfl, rfl, rfl⟩ <;> cases neq
 ·simp [binOp, Op.intCmp, ngt]
 ·simp [binOp, Op.intCmp, ngt, bne]
 ·simp [binOp, Op.stringOp, ngt]
 ·simp [binOp, Op.stringOp, ngt]

theorem run_arr_eq {T e : TypeId} {n : Nat} {k' : IntKind} (hT : P.underlying T = some (.array n e)) (he : P.underlying e = some (.int k')) {i : TypeInfo} (hi : P.info? e = some i) (hs : i.size = 1)
  (xs ys : Array Value) (d : Nat) (hx : xs.size = n) (hy : ys.size = n) (B' : Nat → Bool) (hb : ∀ j (h1 : j < xs.size) (h2 : j < ys.size), ∃ k p q, xs[j] = .int k p ∧ ys[j] = .int k q ∧ (p == q) = B' j) :
  (Op.equalIn (d + 2) T (.agg xs) (.agg ys)).run P w = .ok ((List.range n).all B') w := by
 have part_run : ∀ (zs : Array Value) (j : Nat) (z : Value), zs[j]? = some z → (part e zs j).run P w = .ok z w := fun zs j z hz => by
  simp only [part, Sem.run_bind, run_isAgg w he, Result.andThen_ok]
  simp [hz]
 have key : ∀ (l : List Nat), (∀ j ∈ l, j < n) →
   Sem.run P (forIn l ((none, ()) : Option Bool × Unit) (fun j (_ : Option Bool × Unit) => (do
     let a ← part e xs (j * 1)
     let b ← part e ys (j * 1)
     let q ← Op.equalIn (d + 1) e a b
     if (!q) = true then pure (ForInStep.done (some false, ())) else pure (ForInStep.yield (none, ())) : Sem (ForInStep (Option Bool × Unit))))) w = Result.ok (if l.all B' then none else some false, ()) w := by
  intro l
  induction l with
  | nil => intro _; simp
  | cons j l ih =>
    intro hl
    have hj := hl j (by simp)
    obtain ⟨k, p, q, h1, h2, h3⟩ := hb j (by omega) (by omega)
    have e1 := part_run xs j _ (Array.getElem?_eq_getElem (by omega))
    have e2 := part_run ys j _ (Array.getElem?_eq_getElem (by omega))
    rw [h1] at e1
    rw [h2] at e2
    have e3 : (Op.equalIn (d + 1) e (.int k p) (.int k q)).run P w = .ok (p == q) w := run_equalIn_int w d e k k' p q he
    rw [List.forIn_cons]
    simp only [Sem.run_bind, Nat.mul_one, e1, e2, e3, Result.andThen_ok, Sem.run_ite, h3]
    have ih' := ih (fun j' h' => hl j' (by simp [h']))
    simp only [Nat.mul_one] at ih'
    cases hB : B' j
    ·simp [hB]
    ·simp only [hB, Bool.not_true, Bool.false_eq_true, if_false, Sem.run_pure, Result.andThen_ok, List.all_cons, Bool.true_and]
     exact ih'
 rw [show d + 2 = (d + 1) + 1 from rfl, Op.equalIn]
 simp only [Sem.run_bind, run_underlying hT, Result.andThen_ok, run_size w hi, hs]
 rw [Std.Legacy.Range.forIn_eq_forIn_range']
 have := key (List.range n) (fun j hj => List.mem_range.1 hj)
 rw [List.range_eq_range'] at this
 simp only [Std.Legacy.Range.size, Nat.sub_zero, Nat.add_sub_cancel, Nat.div_one]
 rw [this, List.range_eq_range']
 simp only [Result.andThen_ok]
 cases (List.range' 0 n).all B' <;> rfl

theorem eqs_ok : ∀ {l m : List AV} {xs ys : List Value} {b : Bool}, relL E l xs → relL E m ys → eqs l m = some b →
  xs.length = l.length ∧ ys.length = l.length ∧ ∃ B' : Nat → Bool, (List.range l.length).all B' = b ∧ ∀ j (h1 : j < xs.length) (h2 : j < ys.length), ∃ k p q, xs[j] = .int k p ∧ ys[j] = .int k q ∧ (p == q) = B' j
 | [], [], xs, ys, b, hx, hy, h => by
   simp only [relL] at hx hy; subst hx hy
   simp only [eqs, Option.some.injEq] at h
   exact ⟨rfl, rfl, fun _ => true, by simp [h], fun j h1 => by simp at h1⟩
 | x :: l, y :: m, xs, ys, b, hx, hy, h => by
   simp only [relL] at hx hy
   obtain ⟨u, us, rfl, hu, hus⟩ := hx
   obtain ⟨v, vs, rfl, hv, hvs⟩ := hy
   simp only [eqs] at h
   split at h
   ·rename_i c hc
    have h1 := eq1_ok hu hv hc
    have tail : ∀ b', eqs l m = some b' → ((c && b') = b) → (u :: us).length = (x :: l).length ∧ (v :: vs).length = (x :: l).length ∧ ∃ B' : Nat → Bool, (List.range (x :: l).length).all B' = b ∧ ∀ j (h1 : j < (u :: us).length) (h2 : j < (v :: vs).length), ∃ k p q, (u :: us)[j] = .int k p ∧ (v :: vs)[j] = .int k q ∧ (p == q) = B' j := fun b' hb' hbb => by
     obtain ⟨e1, e2, B', hB, hall⟩ := eqs_ok hus hvs hb'
     refine ⟨by simp [e1], by simp [e2], fun j => match j with | 0 => c | j + 1 => B' j, ?_, fun j k1 k2 => ?_⟩
     ·rw [List.length_cons, List.range_succ_eq_map, List.all_cons, List.all_map, ← hbb, ← hB]; rfl
     ·cases j with
      | zero => exact h1
      | succ j => simpa using hall j (by simpa using k1) (by simpa using k2)
    cases hb' : eqs l m with
    | none => rw [hb'] at h; cases l <;> simp [andE] at h
    | some b' =>
      rw [hb'] at h
      cases l with
      | nil =>
        simp only [andE, Option.some.injEq] at h
        refine tail b' hb' ?_
        have := eqs_nil hb'
        subst this
        simp [eqs] at hb'
        subst hb'
        simp [h]
      | cons y l =>
        simp only [andE, Option.some.injEq] at h
        exact tail b' hb' h
   ·cases h
 | [], _ :: _, _, _, _, _, _, h => by simp [eqs] at h
 | _ :: _, [], _, _, _, _, _, h => by simp [eqs] at h

theorem run_guard_no {op : BinOp} {T : TypeId} {xo yo : Operand} {u v : Value} (h1 : ∀ x, u ≠ .agg x) (h2 : u ≠ .nilIface) : (eqGuard op T xo yo u v).run P w = .ok () w := by
 have e : ∀ op', op' = .eql ∨ op' = .neq → (eqGuard op' T xo yo u v).run P w = .ok () w := by
  intro op' ho
  rcases ho with rfl | rfl <;> (cases u <;> first | rfl | exact absurd rfl h2 | exact absurd rfl (h1 _))
 cases op <;> first | exact e _ (.inl rfl) | exact e _ (.inr rfl) | rfl

theorem run_guard_arr {op : BinOp} {T e : TypeId} {n : Nat} {k : IntKind} (hT : P.underlying T = some (.array n e)) (he : P.underlying e = some (.int k)) {xo yo : Operand} {us vs : Array Value} : (eqGuard op T xo yo (.agg us) (.agg vs)).run P w = .ok () w := by
 have hg : P.eqGuardType P.depth T = false := by
  obtain ⟨d, hd⟩ : ∃ d, P.depth = d + 2 := ⟨2 * (P.types.size + Made.depth), rfl⟩
  rw [hd]
  simp [Program.eqGuardType, hT, he]
 exact run_eqGuard_agg w op T xo yo us vs hg

theorem evEq_ok (hti : TIok P ti) {neq : Bool} {k : QK} {T : TypeId} (hk : qkOf ti T = some k) {x y A : AV} {C : Option Prop} {u v : Value} {xo yo : Operand} (hx : rel E x u) (hy : rel E y v) (h : evEq neq k x y = .v C A) :
  ∃ r, (do eqGuard (if neq then .neq else .eql) T xo yo u v; binOp (if neq then .neq else .eql) T u v : Sem Value).run P w = .ok r w ∧ rel E A r := by
 have fin : ∀ b : Bool, (∀ x, u ≠ .agg x) → u ≠ .nilIface → A = .bool (ngt neq b) → (binOp (if neq then .neq else .eql) T u v).run P w = .ok (.bool (ngt neq b)) w →
   ∃ r, (do eqGuard (if neq then .neq else .eql) T xo yo u v; binOp (if neq then .neq else .eql) T u v : Sem Value).run P w = .ok r w ∧ rel E A r := fun b h1 h2 h3 h4 => by
  refine ⟨.bool (ngt neq b), ?_, by rw [h3]; simp only [rel]⟩
  simp only [Sem.run_bind, run_guard_no (P := P) (w := w) h1 h2, Result.andThen_ok, h4]
 cases k with
 | sc =>
   simp only [evEq] at h
   split at h
   ·cases h
    simp only [rel] at hx hy
    obtain ⟨p, rfl, hp⟩ := hx
    obtain ⟨q, rfl, hq⟩ := hy
    exact fin _ (by simp) (by simp) rfl (run_eql_q neq T (.inr ⟨p, q, rfl, rfl, by rw [ByteArray.toList_eq, ByteArray.toList_eq, hp, hq]⟩))
   ·split at h
    ·rename_i b hb
     cases h
     have h1 := eq1_ok hx hy hb
     refine fin b ?_ ?_ rfl (run_eql_q neq T (.inl h1))
     ·obtain ⟨_, _, _, rfl, _⟩ := h1; simp
     ·obtain ⟨_, _, _, rfl, _⟩ := h1; simp
    ·cases h
 | bool =>
   simp only [evEq] at h
   split at h <;> cases h
   rename_i p q
   simp only [rel] at hx hy; subst hx hy
   have hd : (ti T).d = .bool := by
    unfold qkOf at hk
    split at hk <;> first | assumption | (cases hk; done) | (split at hk <;> cases hk)
   have hT := (hti.get hd (by simp)).desc
   rw [hd] at hT
   refine fin (p == q) (by simp) (by simp) rfl ?_
   have e := run_equalIn_bool w 9999 T p q hT
   cases neq <;> simp [binOp, Op.equal, Op.maxDepth, e, ngt]
 | slice =>
   have hd : ∃ e, (ti T).d = .slice e := by
    unfold qkOf at hk
    split at hk <;> first | exact ⟨_, ‹_›⟩ | (cases hk; done) | (split at hk <;> cases hk)
   obtain ⟨e, hd⟩ := hd
   have hT := (hti.get hd (by simp)).desc
   rw [hd] at hT
   have isn : ∀ {nil : Bool} {n sz : Nat} {c : AV} {f : Bool} {z : Value}, rel E (.sl nil n sz c f) z → ∃ a n' c', z = .slice a n' c' ∧ a.isNone = nil := fun {nil n sz c f z} hz => by
    simp only [rel] at hz
    split at hz
    ·rename_i hn; exact ⟨none, 0, 0, hz.1, by simp [hn]⟩
    ·rename_i hn; obtain ⟨a, cap, vs, hz, _⟩ := hz; exact ⟨some a, n, cap, hz, by simpa using hn⟩
   have isn' : ∀ {nil : Bool} {i e' o' n sz : Nat} {z : Value}, rel E (.ms nil i e' o' n sz) z → ∃ a n' c', z = .slice a n' c' ∧ a.isNone = nil := fun {nil i e' o' n sz z} hz => by
    simp only [rel] at hz
    split at hz
    ·rename_i hn; exact ⟨none, 0, 0, hz.1, by simp [hn]⟩
    ·rename_i hn; obtain ⟨_, _, a, cap, hz, _⟩ := hz; exact ⟨some a, n, cap, hz, by simpa using hn⟩
   have go : ∀ {a b : Option Addr} {n' c' m' d' : Nat} {r : Bool}, (a = none ∧ b.isNone = r) ∨ (b = none ∧ a.isNone = r) → (binOp (if neq then .neq else .eql) T (.slice a n' c') (.slice b m' d')).run P w = .ok (.bool (ngt neq r)) w := fun {a b n' c' m' d' r} hr => by
    have e : (Op.equalIn 10000 T (.slice a n' c') (.slice b m' d')).run P w = .ok r w := by
     rw [Op.equalIn]
     simp only [Sem.run_bind, run_underlying hT, Result.andThen_ok]
     rcases hr with ⟨rfl, rfl⟩ | ⟨rfl, rfl⟩
     ·rfl
     ·cases a <;> rfl
    cases neq <;> simp [binOp, Op.equal, Op.maxDepth, e, ngt]
   simp only [evEq] at h
   split at h <;> cases h
   ·obtain ⟨a, _, _, rfl, ha⟩ := isn hx
    obtain ⟨b, _, _, rfl, hb⟩ := isn hy
    simp at hb; subst hb
    exact fin _ (by simp) (by simp) rfl (go (.inr ⟨rfl, ha⟩))
   ·obtain ⟨a, _, _, rfl, ha⟩ := isn hx
    obtain ⟨b, _, _, rfl, hb⟩ := isn hy
    simp at ha; subst ha
    exact fin _ (by simp) (by simp) rfl (go (.inl ⟨rfl, hb⟩))
   ·obtain ⟨a, _, _, rfl, ha⟩ := isn' hx
    obtain ⟨b, _, _, rfl, hb⟩ := isn hy
    simp at hb; subst hb
    exact fin _ (by simp) (by simp) rfl (go (.inr ⟨rfl, ha⟩))
 | ptr =>
   have hd : (ti T).d = .ptr := by
    unfold qkOf at hk
    split at hk <;> first | assumption | (cases hk; done) | (split at hk <;> cases hk)
   have hT := (hti.get hd (by simp)).desc
   rw [hd] at hT
   obtain ⟨e, hT⟩ := hT
   have go : ∀ {a b : Option Addr} {r : Bool}, (a = none ∧ b.isNone = r) ∨ (b = none ∧ a.isNone = r) → (binOp (if neq then .neq else .eql) T (.pointer a) (.pointer b)).run P w = .ok (.bool (ngt neq r)) w := fun {a b r} hr => by
    have e : (Op.equalIn 10000 T (.pointer a) (.pointer b)).run P w = .ok r w := by
     rw [Op.equalIn]
     simp only [Sem.run_bind, run_underlying hT, Result.andThen_ok]
     rcases hr with ⟨rfl, rfl⟩ | ⟨rfl, rfl⟩
     ·rfl
     ·cases a <;> rfl
    cases neq <;> simp [binOp, Op.equal, Op.maxDepth, e, ngt]
   have sp : ∀ {i e o : Nat} {z : Value}, e = E.ep i → rel E (.ptr i e o) z → ∃ b, z = .pointer (some b) := fun {i e o z} he hz => by
    simp only [rel] at hz
    obtain ⟨_, _, _, hz⟩ := hz
    obtain ⟨b, s, _, hz⟩ := hz he
    exact ⟨_, hz⟩
   simp only [evEq] at h
   split at h <;> cases h
   ·simp only [rel] at hx hy; subst hx hy
    exact fin true (by simp) (by simp) rfl (go (.inl ⟨rfl, rfl⟩))
   ·simp only [rel] at hx hy; subst hy
    obtain ⟨_, _, ⟨x, rfl⟩, _⟩ := hx
    exact fin false (by simp) (by simp) (by cases neq <;> rfl) (go (.inr ⟨rfl, rfl⟩))
   ·simp only [rel] at hx hy; subst hx
    obtain ⟨_, _, ⟨x, rfl⟩, _⟩ := hy
    exact fin false (by simp) (by simp) (by cases neq <;> rfl) (go (.inl ⟨rfl, rfl⟩))
 | arr n =>
   simp only [evEq] at h
   split at h
   ·rename_i l m
    split at h
    ·rename_i hl
     split at h
     ·rename_i b hb
      cases h
      have hl' : l.length = n := by rw [← llen_eq]; exact Nat.eq_of_beq_eq_true hl
      simp only [rel] at hx hy
      obtain ⟨us, rfl, hus, _⟩ := hx
      obtain ⟨vs, rfl, hvs, _⟩ := hy
      obtain ⟨e1, e2, B', hB, hall⟩ := eqs_ok hus hvs hb
      obtain ⟨e, k', hT, he, i, hi, hs⟩ : ∃ e k', P.underlying T = some (.array n e) ∧ P.underlying e = some (.int k') ∧ ∃ i, P.info? e = some i ∧ i.size = 1 := by
       have hd : ∃ e, (ti T).d = .arr n e ∧ (ti e).size = 1 ∧ ((ti e).d = .u8 ∨ (ti e).d = .u32 ∨ (ti e).d = .int ∨ (ti e).d = .u64) := by
        unfold qkOf at hk
        split at hk <;> first
         | (cases hk; done)
         | (rename_i n' e' ha; split at hk <;> first | (cases hk; done) | (cases hk; exact ⟨e', ha, by assumption, by simp [*]⟩))
       obtain ⟨e, hd, hsz, hde⟩ := hd
       have hT := (hti.get hd (by simp)).desc
       rw [hd] at hT
       have he : ∃ k', P.underlying e = some (.int k') ∧ ∃ i, P.info? e = some i ∧ i.size = 1 := by
        rcases hde with hde | hde | hde | hde
        all_goals
         have h1 := hti.get hde (by simp)
         have h2 := h1.desc
         rw [hde] at h2
         obtain ⟨i, z, h3, h4, _⟩ := h1.info
         exact ⟨_, h2, i, h3, by rw [h4, hsz]⟩
       obtain ⟨k', he, i, hi, hs⟩ := he
       exact ⟨e, k', hT, he, i, hi, hs⟩
      have key := run_arr_eq (w := w) hT he hi hs us vs 9998 (by simp at e1; omega) (by simp at e2; omega) B' (fun j h1 h2 => by
       have h3 := hall j (by simpa using h1) (by simpa using h2)
       simp only [Array.getElem_toList] at h3
       exact h3)
      rw [← hl', hB] at key
      refine ⟨.bool (ngt neq b), ?_, by simp only [rel]⟩
      simp only [Sem.run_bind, run_guard_arr (w := w) hT he, Result.andThen_ok]
      cases neq <;> simp [binOp, Op.equal, Op.maxDepth, key, ngt]
     ·cases h
    ·cases h
   ·cases h

end
section
variable {P : Program} {ti : Nat → TInf} {B : Base} {E : Env} {h : List AO} {w : World} {g : Nat → AV} {a : Act} {o : Oper} {sp : Sp}

theorem addr_add (b o k : Nat) : (⟨b, o, none⟩ : Addr).add k = ⟨b, o + k, none⟩ := by unfold Addr.add; split <;> simp_all

theorem run_load1 {T : TypeId} (hag : (isAgg T).run P w = .ok false w) {b o : Nat} {u : Value} (hc : w.cell? ⟨b, o, none⟩ = some u) : (Instr.loadAt T (.pointer (some ⟨b, o, none⟩))).run P w = .ok u w := by
 simp [Instr.loadAt, Instr.sureAddr, loadVar, hag, hc]
theorem run_loadN {T : TypeId} (hag : (isAgg T).run P w = .ok true w) {i : TypeInfo} (hi : P.info? T = some i) {b o : Nat} {vs : List Value} (hl : vs.length = i.size)
  (hc : ∀ k u, vs[k]? = some u → w.cell? ⟨b, o + k, none⟩ = some u) : (Instr.loadAt T (.pointer (some ⟨b, o, none⟩))).run P w = .ok (.agg vs.toArray) w := by
 have := run_loadCells_list (P := P) w ⟨b, o, none⟩ vs (fun j v hv => by rw [addr_add]; exact hc j v hv)
 rw [hl] at this
 simp [Instr.loadAt, Instr.sureAddr, loadVar, hag, run_size w hi, this]

theorem read_ptr (m : Mem B E h w) {i e o' : Nat} {ob : AO} (hi : h[i]? = some ob) (he : ob.ep = e) {v : Value} (hv : rel E (.ptr i e o') v) :
  ∃ b vs, v = .pointer (some ⟨b, o', none⟩) ∧ relC E ob.c vs ∧ ∀ k u, vs[k]? = some u → w.cell? ⟨b, k, none⟩ = some u := by
 obtain ⟨b, s, vs, h1, h2, h3⟩ := m.row hi
 simp only [rel] at hv
 obtain ⟨_, _, _, hv⟩ := hv
 obtain ⟨b', s', h4, h5⟩ := hv (by rw [← he]; exact (m.obj i ob hi).1.symm)
 rw [h1] at h4; cases h4
 exact ⟨b, vs, h5, h2, h3⟩

theorem get_of_drop {vs : List Value} {o k : Nat} {u : Value} (hu : (vs.drop o)[k]? = some u) : vs[o + k]? = some u := by simpa [List.getElem?_drop] using hu

theorem fget_eq : ∀ (l : List FV) (n : Nat), fget l n = l[n]?
 | [], _ => by simp [fget]
 | _ :: _, 0 => by simp [fget]
 | _ :: l, n + 1 => by simp [fget, fget_eq l n]
theorem fdrop_eq : ∀ (l : List FV) (n : Nat), fdrop l n = l.drop n
 | [], 0 => rfl
 | [], _ + 1 => rfl
 | _ :: _, 0 => rfl
 | _ :: l, n + 1 => by simp [fdrop, fdrop_eq l n]
theorem ftake_eq : ∀ (l : List FV) (n : Nat) (m : List FV), ftake l n = some m → m = l.take n ∧ n ≤ l.length
 | [], 0, m, h => by simp [ftake] at h; simp [h]
 | _ :: _, 0, m, h => by simp [ftake] at h; simp [h]
 | [], n + 1, m, h => by simp [ftake] at h
 | a :: l, n + 1, m, h => by
   simp only [ftake] at h
   split at h
   ·rename_i m' hm
    obtain ⟨h1, h2⟩ := ftake_eq l n m' hm
    cases h; simp [h1]; exact h2
   ·cases h
theorem fset_eq : ∀ (l : List FV) (n : Nat) (v : FV) (r : List FV), fset l n v = some r → n < l.length ∧ r = l.set n v
 | [], _, _, _, h => by simp [fset] at h
 | _ :: l, 0, v, r, h => by simp [fset] at h; subst h; simp
 | x :: l, n + 1, v, r, h => by
   simp only [fset] at h
   split at h
   ·rename_i m hm
    obtain ⟨h1, h2⟩ := fset_eq l n v m hm
    cases h; simp [h2]; exact h1
   ·cases h
theorem fput_eq : ∀ (l : List FV) (n : Nat) (m r : List FV), fput l n m = some r → n + m.length ≤ l.length ∧ r = l.take n ++ m ++ l.drop (n + m.length)
 | l, 0, [], r, h => by cases l <;> (simp [fput] at h; subst h; simp)
 | a :: l, 0, b :: m, r, h => by
   simp only [fput] at h
   split at h
   ·rename_i r' hr
    obtain ⟨h1, h2⟩ := fput_eq l 0 m r' hr
    cases h
    simp at h1 h2 ⊢
    exact ⟨h1, h2⟩
   ·cases h
 | a :: l, n + 1, m, r, h => by
   cases m with
   | nil =>
     simp only [fput] at h
     split at h
     ·rename_i r' hr
      obtain ⟨h1, h2⟩ := fput_eq l n [] r' hr
      cases h
      simp at h1 h2 ⊢
      exact ⟨h1, h2⟩
     ·cases h
   | cons b m =>
     simp only [fput] at h
     split at h
     ·rename_i r' hr
      obtain ⟨h1, h2⟩ := fput_eq l n (b :: m) r' hr
      cases h
      refine ⟨by simp at h1 ⊢; omega, ?_⟩
      rw [h2, show n + 1 + (b :: m).length = (n + (b :: m).length) + 1 from by omega]
      rfl
     ·cases h
 | [], 0, _ :: _, _, h => by simp [fput] at h
 | [], _ + 1, [], _, h => by simp [fput] at h
 | [], _ + 1, _ :: _, _, h => by simp [fput] at h
theorem relFL_iff {l : List FV} {vs : List Value} : relFL E l vs ↔ vs.length = l.length ∧ ∀ (i : Nat) (x : FV) (v : Value), l[i]? = some x → vs[i]? = some v → relF E x v := by
 rw [← relFL_A, relL_iff]
 constructor
 ·rintro ⟨h1, h2⟩
  rw [List.length_map] at h1
  refine ⟨h1, fun i x v hx hv => ?_⟩
  obtain ⟨k1, rfl⟩ := List.getElem?_eq_some_iff.1 hx
  obtain ⟨k2, rfl⟩ := List.getElem?_eq_some_iff.1 hv
  have := h2 i (by simpa using k1) k2
  rw [List.getElem_map] at this
  exact relF_A.1 this
 ·rintro ⟨h1, h2⟩
  refine ⟨by simpa using h1, fun i k1 k2 => ?_⟩
  rw [List.getElem_map]
  exact relF_A.2 (h2 i _ _ (List.getElem?_eq_getElem (by simpa using k1)) (List.getElem?_eq_getElem k2))
theorem rowP_ok {i e sz n : Nat} {f : Nat → List FV} {fz : Bool} (h0 : rowP h i e sz = some (n, f, fz)) : ∃ ob, h[i]? = some ob ∧ ob.ep = e ∧ ob.c = .rw n sz f ∧ ob.fz = fz := by
 unfold rowP at h0
 split at h0
 ·rename_i ob hob
  split at h0
  ·rename_i hep
   split at h0
   ·rename_i n' sz' f' hc
    split at h0
    ·rename_i hb
     cases h0
     exact ⟨ob, by rw [← hget_eq]; exact hob, Nat.eq_of_beq_eq_true hep, by rw [hc, Nat.eq_of_beq_eq_true hb], rfl⟩
    ·cases h0
   ·cases h0
  ·cases h0
 ·cases h0
theorem rel_pel {i e k j sz : Nat} {v : Value} : rel E (.pel i e k j sz) v ↔ rel E (.ptr i e (k * sz + j)) v := by simp only [rel]
theorem relFL_upd {n sz k : Nat} {f : Nat → List FV} {l : List FV} (hk : k < n) (hl : l.length = sz) {vs us : List Value} {j : Nat} {xs : List FV} (hx : relFL E xs us) (hj : j + xs.length ≤ sz) (hle : l = (normF sz (f k)).take j ++ xs ++ (normF sz (f k)).drop (j + xs.length))
  (hr : relFL E (flatF sz f n) vs) : relFL E (flatF sz (fupd f k l) n) (vs.take (k * sz + j) ++ us ++ vs.drop (k * sz + j + us.length)) ∧ k * sz + j + us.length ≤ vs.length := by
 obtain ⟨r1, r2⟩ := relFL_iff.1 hr
 obtain ⟨x1, x2⟩ := relFL_iff.1 hx
 rw [flatF_len] at r1
 have hkn : (k + 1) * sz ≤ n * sz := Nat.mul_le_mul_right _ hk
 rw [Nat.succ_mul] at hkn
 have nl : normF sz l = l := by
  have : ∀ (m : List FV), normF m.length m = m := fun m => by
   induction m with
   | nil => rfl
   | cons y m ih => simp [normF, ih]
  rw [← hl]; exact this l
 have ho : ∀ q p, q < n → p < sz → (flatF sz (fupd f k l) n)[q * sz + p]? = if q = k then l[p]? else (normF sz (f q))[p]? := fun q p hq hp => by
  rw [flatF_get sz _ hq hp]
  unfold fupd
  split
  ·rename_i hb; rw [if_pos (Nat.eq_of_beq_eq_true hb), nl]
  ·rename_i hb; rw [if_neg (fun e => by subst e; simp at hb)]
 refine ⟨relFL_iff.2 ⟨?_, fun i x v hx' hv' => ?_⟩, by omega⟩
 ·rw [flatF_len]; simp; omega
 ·have hi : i < n * sz := by
   have := (List.getElem?_eq_some_iff.1 hx').1
   rwa [flatF_len] at this
  have hsz : 0 < sz := by rcases Nat.eq_zero_or_pos sz with h | h; subst h; simp at hi; exact h
  obtain ⟨q, p, hq, hp, rfl⟩ : ∃ q p, q < n ∧ p < sz ∧ i = q * sz + p := ⟨i / sz, i % sz, by rw [Nat.div_lt_iff_lt_mul hsz]; exact hi, Nat.mod_lt _ hsz, by rw [Nat.mul_comm]; exact (Nat.div_add_mod i sz).symm⟩
  rw [ho q p hq hp] at hx'
  have old : ∀ {y : FV} {u : Value}, (normF sz (f q))[p]? = some y → vs[q * sz + p]? = some u → relF E y u := fun {y u} hy hu => r2 (q * sz + p) y u (by rw [flatF_get sz f hq hp]; exact hy) hu
  have lt1 : (vs.take (k * sz + j)).length = k * sz + j := by simp; omega
  by_cases hqk : q = k
  ·subst hqk
   rw [if_pos rfl, hle] at hx'
   have ln := normF_len sz (f q)
   have lt2 : ((normF sz (f q)).take j).length = j := by simp [ln]; omega
   by_cases c1 : p < j
   ·rw [List.append_assoc, List.getElem?_append_left (by omega), List.getElem?_take, if_pos c1] at hx'
    rw [List.append_assoc, List.getElem?_append_left (by omega), List.getElem?_take, if_pos (by omega)] at hv'
    exact old hx' hv'
   ·by_cases c2 : p < j + xs.length
    ·rw [List.append_assoc, List.getElem?_append_right (by omega), lt2, List.getElem?_append_left (by omega)] at hx'
     rw [List.append_assoc, List.getElem?_append_right (by omega), lt1, List.getElem?_append_left (by omega), show q * sz + p - (q * sz + j) = p - j by omega] at hv'
     exact x2 _ _ _ hx' hv'
    ·rw [List.getElem?_append_right (by simp [ln]; omega), List.getElem?_drop, List.length_append, lt2, show j + xs.length + (p - (j + xs.length)) = p by omega] at hx'
     rw [List.getElem?_append_right (by simp; omega), List.getElem?_drop, List.length_append, lt1, x1, show q * sz + j + xs.length + (q * sz + p - (q * sz + j + xs.length)) = q * sz + p by omega] at hv'
     exact old hx' hv'
  ·rw [if_neg hqk] at hx'
   rcases Nat.lt_or_ge q k with hlt | hge
   ·have : (q + 1) * sz ≤ k * sz := Nat.mul_le_mul_right _ hlt
    rw [Nat.succ_mul] at this
    rw [List.append_assoc, List.getElem?_append_left (by omega), List.getElem?_take, if_pos (by omega)] at hv'
    exact old hx' hv'
   ·have : (k + 1) * sz ≤ q * sz := Nat.mul_le_mul_right _ (by omega)
    rw [Nat.succ_mul] at this
    rw [List.getElem?_append_right (by simp; omega), List.getElem?_drop, List.length_append, lt1, x1, show k * sz + j + xs.length + (q * sz + p - (k * sz + j + xs.length)) = q * sz + p by omega] at hv'
    exact old hx' hv'

theorem rel_agg_of_C {c : AV} (hn : ∀ n sz f, c ≠ .rw n sz f) {vs : List Value} (r : relC E c vs) : rel E c (.agg vs.toArray) := by
 cases c <;> simp only [relC] at r <;> simp only [rel]
 ·exact ⟨_, rfl, by simpa using r.1, by simpa using r.2⟩
 ·exact ⟨_, rfl, by simpa using r⟩
 ·exact ⟨_, rfl, by simpa using r⟩
 ·exact ⟨_, rfl, by simpa using r⟩
 ·exact hn _ _ _ rfl

theorem load_ok (m : Mem B E h w) (hti : TIok P ti) {T : TypeId} (hd : (ti T).d ≠ .other) {A : AV} {v : Value} (hv : rel E A v) {C : Option Prop} {R : AV}
  (hev : ev sp g h (.load (lsz (ti T)) (.c A)) = .v C R) (hC : holds C) : ∃ r, (Instr.loadAt T v).run P w = .ok r w ∧ rel E R r := by
 obtain ⟨⟨i, z, h1, h2, _⟩, hdesc, hone⟩ := hti.get rfl hd
 have hag := hdesc.agg hd w
 -- the cells from a place on
 have fin1 : isAggD (ti T).d = false → ∀ {b o : Nat} {c : AV} {vs : List Value}, v = .pointer (some ⟨b, o, none⟩) → relC E c vs → (∀ k u, vs[o + k]? = some u → w.cell? ⟨b, o + k, none⟩ = some u) → cget c o = some (C, R) → ∃ r, (Instr.loadAt T v).run P w = .ok r w ∧ rel E R r := fun hf {b o c vs} e1 e2 e3 e4 => by
  obtain ⟨u, hu, hr, _⟩ := relC_get e2 (cget_ok e4 hC)
  rw [hf] at hag
  subst e1
  exact ⟨u, run_load1 hag (by have := e3 0 u (by simpa using hu); simpa using this), hr⟩
 have finN : isAggD (ti T).d = true → ∀ {b o o' : Nat} {c : AV} {vs : List Value}, v = .pointer (some ⟨b, o', none⟩) → relC E c vs → (∀ k u, vs[o + k]? = some u → w.cell? ⟨b, o' + k, none⟩ = some u) → cexp c o (ti T).size = some (C, R) → ∃ r, (Instr.loadAt T v).run P w = .ok r w ∧ rel E R r := fun ht {b o o' c vs} e1 e2 e3 e4 => by
  rw [ht] at hag
  obtain ⟨k1, k2, k3⟩ := cexp_ok e4 hC
  have hs := relC_exp e4 hC e2
  have hl : ((vs.drop o).take (ti T).size).length = i.size := by
   rw [h2]
   rcases Nat.eq_zero_or_pos (ti T).size with hz | hz
   ·simp [hz]
   ·have := k3 hz
    rw [← clen_eq, ← relC_length e2] at this
    simp; omega
  subst e1
  refine ⟨_, run_loadN hag h1 hl (fun k u hu => e3 k u ?_), rel_agg_of_C (fun n' sz' f' e => by subst e; cases c <;> simp only [cexp, Option.some.injEq, Prod.mk.injEq, reduceCtorEq, and_false] at e4; split at e4 <;> cases e4) hs⟩
  rw [List.getElem?_take] at hu
  split at hu
  ·exact get_of_drop hu
  ·cases hu
 simp only [lsz] at hev
 split at hev
 ·rename_i ht
  simp only [ev, xv] at hev
  split at hev
  ·rename_i i' e' o'
   split at hev
   ·rename_i ob hob
    split at hev
    ·rename_i hep
     simp only [ofC] at hev
     split at hev
     ·rename_i C' R' hs; cases hev
      obtain ⟨b, vs, e1, e2, e3⟩ := read_ptr m (by rw [← hget_eq]; exact hob) (Nat.eq_of_beq_eq_true hep) hv
      exact finN ht e1 e2 (fun k u hu => e3 _ u hu) hs
     ·cases hev
    ·cases hev
   ·cases hev
  ·rename_i c
   simp only [ofC] at hev
   split at hev
   ·rename_i C' R' hs; cases hev
    simp only [rel] at hv
    obtain ⟨b, o', vs, e1, e2, e3⟩ := hv
    exact finN ht e1 e3 (fun k u hu => m.at_cell e2 (by simpa using hu)) hs
   ·cases hev
  ·rename_i i' e' k' j' sz'
   unfold ldPN at hev
   split at hev
   ·rename_i n' f' fz' hrow
    split at hev
    ·rename_i l' hl'
     cases hev
     obtain ⟨ob, q1, q2, q3, _⟩ := rowP_ok hrow
     have hk : k' < n' := hC
     obtain ⟨b, vs, e1, e2, e3⟩ := read_ptr m q1 q2 (rel_pel.1 hv)
     rw [q3] at e2
     simp only [relC] at e2
     obtain ⟨p1, p2⟩ := ftake_eq _ _ _ hl'
     rw [fdrop_eq] at p1 p2
     rw [List.length_drop, normF_len] at p2
     obtain ⟨r1, r2⟩ := relFL_iff.1 e2.1
     rw [flatF_len] at r1
     have hkn : (k' + 1) * sz' ≤ n' * sz' := Nat.mul_le_mul_right _ hk
     rw [Nat.succ_mul] at hkn
     have ht' := ht
     rw [ht'] at hag
     have hlen : ((vs.drop (k' * sz' + j')).take (ti T).size).length = i.size := by rw [h2, List.length_take, List.length_drop]; omega
     subst e1
     refine ⟨_, run_loadN hag h1 hlen (fun k u hu => ?_), ?_⟩
     ·rw [List.getElem?_take] at hu
      split at hu
      ·rw [List.getElem?_drop] at hu; exact e3 _ u hu
      ·cases hu
     ·simp only [rel]
      refine ⟨_, rfl, ?_, ?_⟩
      ·rw [mapA_eq, p1]
       simp only
       rw [relFL_A, relFL_iff]
       refine ⟨by simp [normF_len]; omega, fun q x v hx hv' => ?_⟩
       rw [List.getElem?_take] at hx hv'
       split at hx
       ·rename_i hq
        rw [if_pos hq] at hv'
        rw [List.getElem?_drop] at hx hv'
        refine r2 (k' * sz' + j' + q) x v ?_ hv'
        rw [show k' * sz' + j' + q = k' * sz' + (j' + q) by omega, flatF_get sz' f' hk (by omega)]
        exact hx
       ·cases hx
      ·exact ones_sub e2.2 fun u hu => List.mem_of_mem_drop (List.mem_of_mem_take hu)
    ·cases hev
   ·cases hev
  ·cases hev
 ·rename_i ht
  simp only [ev, xv] at hev
  split at hev
  ·rename_i i' e' o'
   split at hev
   ·rename_i ob hob
    split at hev
    ·rename_i hep
     simp only [ofC] at hev
     split at hev
     ·rename_i C' R' hs; cases hev
      obtain ⟨b, vs, e1, e2, e3⟩ := read_ptr m (by rw [← hget_eq]; exact hob) (Nat.eq_of_beq_eq_true hep) hv
      exact fin1 (by simpa using ht) e1 e2 (fun k u hu => e3 _ u hu) hs
     ·cases hev
    ·cases hev
   ·cases hev
  ·rename_i c
   simp only [ofC] at hev
   split at hev
   ·rename_i C' R' hs; cases hev
    simp only [rel] at hv
    obtain ⟨b, o', vs, e1, e2, e3⟩ := hv
    obtain ⟨u, hu, hr, _⟩ := relC_get e3 (cget_ok hs hC)
    subst e1
    have hf : isAggD (ti T).d = false := by simpa using ht
    rw [hf] at hag
    exact ⟨u, run_load1 hag (by have := m.at_cell e2 hu; simpa using this), hr⟩
   ·cases hev
  ·rename_i i' e' k' j' sz'
   unfold ldP1 at hev
   split at hev
   ·rename_i n' f' fz' hrow
    split at hev
    ·rename_i x' hx'
     cases hev
     obtain ⟨ob, q1, q2, q3, _⟩ := rowP_ok hrow
     have hk : k' < n' := hC
     obtain ⟨b, vs, e1, e2, e3⟩ := read_ptr m q1 q2 (rel_pel.1 hv)
     rw [q3] at e2
     simp only [relC] at e2
     rw [fget_eq] at hx'
     have hj : j' < sz' := by have := (List.getElem?_eq_some_iff.1 hx').1; rwa [normF_len] at this
     obtain ⟨r1, r2⟩ := relFL_iff.1 e2.1
     rw [flatF_len] at r1
     have hkn : (k' + 1) * sz' ≤ n' * sz' := Nat.mul_le_mul_right _ hk
     rw [Nat.succ_mul] at hkn
     have hf : isAggD (ti T).d = false := by simpa using ht
     rw [hf] at hag
     subst e1
     have hu : vs[k' * sz' + j']? = some (vs[k' * sz' + j']'(by omega)) := List.getElem?_eq_getElem _
     exact ⟨_, run_load1 hag (e3 _ _ hu), relF_A.2 (r2 _ _ _ (by rw [flatF_get sz' f' hk hj]; exact hx') hu)⟩
    ·cases hev
   ·cases hev
  ·cases hev
   simp only [rel] at hv
   obtain ⟨b, o, e1, e2⟩ := hv
   obtain ⟨_, ⟨cs, T', fr, k1, k2, k3, k4⟩, _⟩ := m.xt.wl b (by omega)
   have hlt : o < cs.size := by omega
   obtain ⟨x, hx⟩ := k4 o e2
   subst e1
   have hf : isAggD (ti T).d = false := by simpa using ht
   rw [hf] at hag
   have hcell : w.cell? ⟨b, o, none⟩ = some cs[o] := by rw [cell_of_row w b o cs T' fr k1]; exact Array.getElem?_eq_getElem hlt
   refine ⟨cs[o], run_load1 hag hcell, ?_⟩
   simp only [rel]
   rw [Array.getElem?_eq_getElem hlt] at hx
   exact ⟨x, Option.some.inj hx⟩
  ·cases hev

theorem run_storeCells_fr (g o : Nat) (t : TypeId) (fr : Nat × Nat) : ∀ (vs : List Value) (i : Nat) (cur : Array Value) (w : World), w.heap[g]? = some (.cells cur t fr) → o + i + vs.length ≤ cur.size →
  (∀ k, k < cur.size → (decide (fr.1 ≤ k) && decide (k < fr.2)) = false) → (∀ v ∈ vs, v.oneCell' = true) →
  (storeCells ⟨g, o, none⟩ vs i).run P w = .ok () (w.setRow g (cur.toList.take (o + i) ++ vs ++ cur.toList.drop (o + i + vs.length)).toArray)
 | [], i, cur, w, hg, _, _, _ => by
   simp only [storeCells, List.append_nil, List.length_nil, Nat.add_zero, List.take_append_drop, Array.toArray_toList]
   rw [setRow_self w g cur t fr hg]
   rfl
 | v :: rest, i, cur, w, hg, hl, hfr, h1 => by
   have hi : o + i < cur.size := by simp at hl; omega
   have hcell : w.cell? ⟨g, o + i, none⟩ = some cur[o + i] := by simp [World.cell?, hg, hi]
   have hfro : w.frozen? ⟨g, o + i, none⟩ = false := by
    have := hfr _ hi
    simp only [World.frozen?, hg]; exact this
   have hst : (store ((⟨g, o, none⟩ : Addr).add i) v).run P w = .ok () (w.setRow g (cur.setIfInBounds (o + i) v)) := by
    rw [addr_add, run_store P w _ v _ (h1 v (by simp)), hcell]
    simp [hfro, setCell_eq_setRow w g (o + i) cur t fr v hg]
   have ih := run_storeCells_fr g o t fr rest (i + 1) (cur.setIfInBounds (o + i) v) (w.setRow g (cur.setIfInBounds (o + i) v)) (setRow_heap w g cur _ t _ hg) (by simp at hl ⊢; omega) (fun k hk => hfr k (by simpa using hk)) (fun x hx => h1 x (by simp [hx]))
   simp only [storeCells, Sem.run_bind, hst, Result.andThen_ok, ih, setRow_setRow]
   congr 3
   have e := list_seg_step cur.toList (o + i) v rest (by simp at hl ⊢; omega)
   simpa [Array.toList_setIfInBounds, Nat.add_assoc] using e

theorem store_obj (m : Mem B E h w) {i e o' : Nat} {ob : AO} (hi : h[i]? = some ob) (he : ob.ep = e) (hf : ob.fz = false) {v : Value} (hv : rel E (.ptr i e o') v) {us : List Value} (h1 : ones us) (hpos : 0 < us.length)
  {c : AV} (hc : ∀ vs, relC E ob.c vs → relC E c (vs.take o' ++ us ++ vs.drop (o' + us.length)) ∧ o' + us.length ≤ vs.length) :
  ∃ b w', v = .pointer (some ⟨b, o', none⟩) ∧ (storeCells ⟨b, o', none⟩ us).run P w = .ok () w' ∧ Mem B E (h.set i { ob with c := c }) w' := by
 obtain ⟨hep, b, s, hι, hrow⟩ := m.obj i ob hi
 simp only [rel] at hv
 obtain ⟨_, _, _, hv⟩ := hv
 obtain ⟨b', s', h4, h5⟩ := hv (by rw [← he]; exact hep.symm)
 rw [hι] at h4; cases h4
 rcases hrow with ⟨rfl, hr⟩ | ⟨hf', _⟩ | ⟨_, hs, cur, T, fr, vs, post, g1, g2, g3, g4, g5, g6, g7⟩
 ·have := (hc [] hr).2; simp only [List.length_nil] at this; omega
 ·rw [hf] at hf'; cases hf'
 ·obtain ⟨k1, k2⟩ := hc vs g5
  have hlen : cur.size = vs.length + post.length := by rw [← Array.length_toList, g4]; simp
  have hr := run_storeCells_fr (P := P) b o' T fr us 0 cur w g1 (by omega) (fun k hk => g3.free k (by omega)) h1
  simp only [Nat.add_zero] at hr
  refine ⟨b, _, h5, hr, ?_⟩
  have hnew : (cur.toList.take o' ++ us ++ cur.toList.drop (o' + us.length)) = (vs.take o' ++ us ++ vs.drop (o' + us.length)) ++ post := by
   rw [g4, List.take_append_of_le_length (by omega), List.drop_append_of_le_length (by omega)]
   simp [List.append_assoc]
  refine m.writeO hi hf hι hs (cur' := (cur.toList.take o' ++ us ++ cur.toList.drop (o' + us.length)).toArray) (T := T) (fr := fr) (post' := post) ⟨cur, g1, ?_⟩ (setRow_heap w b cur _ T fr g1) (by simp) (fun k hk => setRow_other w b k _ hk) rfl rfl rfl (by simpa using hnew) k1
  simp; omega

theorem Mem.writeW (m : Mem B E h w) {b o : Nat} (ho : o < E.wl b) {u : Value} (hu : ∃ x, u = u8v x) : ∃ w', (storeCells ⟨b, o, none⟩ [u]).run P w = .ok () w' ∧ Mem B E h w' := by
 obtain ⟨k1, ⟨cur, T, fr, k2, k4, k3, k5⟩, k6, k7⟩ := m.xt.wl b (by omega)
 have hlt : o < cur.size := by omega
 have hr := run_storeCells_fr (P := P) b o T fr [u] 0 cur w k2 (by simp; omega) (fun k hk => k4.free k hk) (fun v hv => by simp at hv; obtain ⟨x, rfl⟩ := hu; rw [hv]; rfl)
 simp only [Nat.add_zero] at hr
 refine ⟨_, hr, ?_⟩
 have hoth : ∀ k, k ≠ b → (w.setRow b (cur.toList.take o ++ [u] ++ cur.toList.drop (o + [u].length)).toArray).heap[k]? = w.heap[k]? := fun k hk => setRow_other w b k _ hk
 have hnew : (w.setRow b (cur.toList.take o ++ [u] ++ cur.toList.drop (o + [u].length)).toArray).heap[b]? = some (.cells (cur.toList.take o ++ [u] ++ cur.toList.drop (o + [u].length)).toArray T fr) := setRow_heap w b cur _ T fr k2
 refine ⟨m.le, by simp only [setRow_size]; exact m.size, m.os, m.tape, m.output, fun k hk hM => ?_, fun k cs hk => ?_, fun j oj hj => ?_, m.inj, m.newP, m.fresh, m.base, ⟨fun k hk => ?_, fun k hk => ?_⟩⟩
 ·have : k ≠ b := fun e => by
   subst e
   rcases k1 with k1 | k1
   ·omega
   ·exact hM k1
  rw [hoth k this]; exact m.keeps k hk hM
 ·have : k ≠ b := fun e => by subst e; rw [k6] at hk; cases hk
  obtain ⟨T', fr', h4⟩ := m.sat k cs hk
  exact ⟨T', fr', by rw [hoth k this]; exact h4⟩
 ·exact (m.obj j oj hj).heap fun b2 s2 hb2 hf2 hs2 _ => hoth b2 (k7 j oj b2 s2 hj hf2 hb2 hs2)
 ·obtain ⟨q1, cs, T', fr', q2, q3, q4⟩ := m.xt.ow k hk
  have : k ≠ b := fun e => by subst e; rw [k6] at q2; cases q2
  exact ⟨q1, cs, T', fr', q2, by rw [hoth k this]; exact q3, q4⟩
 ·by_cases e : k = b
  ·subst e
   have hsz : (cur.toList.take o ++ [u] ++ cur.toList.drop (o + [u].length)).toArray.size = cur.size := by simp; omega
   refine ⟨k1, ⟨_, T, fr, hnew, ?_, ?_, fun q hq => ?_⟩, k6, k7⟩
   ·rw [hsz]; exact k4
   ·rw [hsz]; exact k3
   ·have hs : (cur.toList.take o ++ [u] ++ cur.toList.drop (o + [u].length)) = cur.toList.set o u := by
     rw [List.set_eq_take_append_cons_drop, if_pos (by simpa using hlt)]; simp
    rw [hs, List.getElem?_toArray]
    by_cases e : o = q
    ·subst e
     obtain ⟨x, rfl⟩ := hu
     exact ⟨x, by rw [List.getElem?_set_self (by simpa using hlt)]⟩
    ·rw [List.getElem?_set_ne e, Array.getElem?_toList]
     exact k5 q hq
  ·obtain ⟨q1, ⟨cs, T', fr', q2, q3⟩, q4⟩ := m.xt.wl k hk
   exact ⟨q1, ⟨cs, T', fr', by rw [hoth k e]; exact q2, q3⟩, q4⟩
theorem run_storeAt {T : TypeId} {i : TypeInfo} (hi : P.info? T = some i) {ad : Addr} {u : Value} (hs : u.cells.size = i.size) {w' : World} (hst : (storeCells ad u.cells.toList).run P w = .ok () w') :
  (Instr.storeAt T (.pointer (some ad)) u).run P w = .ok () w' := by
 simp [Instr.storeAt, Instr.sureAddr, storeVar, run_size w hi, hs, hst]

theorem one1_cells {A u : AV} {v : Value} (h1 : one1 A = some u) (hv : rel E A v) : u = A ∧ v.cells.toList = [v] ∧ v.oneCell' = true := by
 have hc : toC A = some (.agg [A]) := by cases A <;> simp only [one1, reduceCtorEq] at h1 <;> rfl
 have hu : u = A := by cases A <;> simp only [one1, reduceCtorEq, Option.some.injEq] at h1 <;> exact h1.symm
 have hr := toC_ok hc hv
 simp only [relC, relL] at hr
 obtain ⟨⟨x, xs, h3, h4, rfl⟩, h5⟩ := hr
 have hl : v.cells.toList.length = 1 := by rw [h3]; rfl
 have hx : v.oneCell' = true ∧ v.cells = #[v] := by
  cases v <;> first
   | exact ⟨rfl, rfl⟩
   | (exfalso; cases A <;> simp only [one1, reduceCtorEq] at h1 <;> simp only [rel, relO8, relW] at hv <;> first
       | (cases hv; done)
       | (rcases hv with ⟨hv, _⟩ | ⟨_, _, hv, _⟩ <;> cases hv; done)
       | (obtain ⟨_, _, hv, _⟩ := hv; cases hv; done)
       | (obtain ⟨_, hv⟩ := hv; cases hv; done)
       | (obtain ⟨_, hv, _⟩ := hv; cases hv; done)
       | (obtain ⟨_, _, ⟨_, hv⟩, _⟩ := hv; cases hv; done)
       | (obtain ⟨_, _, _, hv, _⟩ := hv; cases hv; done)
       | (split at hv <;> first | (cases hv.1; done) | (obtain ⟨_, _, _, hv, _⟩ := hv; cases hv; done) | (obtain ⟨_, _, _, _, hv, _⟩ := hv; cases hv; done)))
 refine ⟨hu, by rw [hx.2], hx.1⟩

def stZ (A V : AV) : Bool := match A, V with
 | .pel _ _ _ _ _, .agg (a :: b :: l) => hasMsL (a :: b :: l)
 | _, _ => false
theorem stPZ_no {h : List AO} {i e k j sz m : Nat} {V d : AV} (hd : toC V = some d) (hz : stZ (.pel i e k j sz) V = false) : stPZ h i e k j sz m d = stPN h i e k j sz m d := by
 unfold stPZ
 split
 ·rename_i a b l
  have hV : V = .agg (a :: b :: l) := by cases V <;> simp [toC] at hd <;> first | exact congrArg _ hd | exact absurd hd.2 (by simp) | (rw [hd])
  subst hV
  rw [show hasMsL (a :: b :: l) = false from hz]
 ·rfl
theorem store_ok (m : Mem B E h w) (hti : TIok P ti) {T : TypeId} (hd : (ti T).d ≠ .other) (hpz : (ti T).size ≠ 0) {A V : AV} {v u : Value} (hv : rel E A v) (hu : rel E V u) {C : Option Prop} {h' : List AO}
  (hnz : stZ A V = false) (hev : ev sp g h (.store (lsz (ti T)) (.c A) (.c V)) = .k C h') (hC : holds C) : ∃ w', (Instr.storeAt T v u).run P w = .ok () w' ∧ Mem B E h' w' := by
 obtain ⟨⟨i, z, h1, h2, _, hz, hzr, _⟩, hdesc, hone⟩ := hti.get rfl hd
 simp only [lsz] at hev
 split at hev
 ·rename_i ht
  simp only [ev, xv] at hev
  split at hev
  ·rename_i i' e' o' d hd'
   split at hev
   ·rename_i ob hob
    split at hev
    ·rename_i hep
     split at hev
     ·rename_i hfz
      ·split at hev
       ·rename_i C' c hp
        cases hev
        obtain ⟨hn, hC⟩ := holds_both.1 hC
        simp only [holds] at hn
        have hob' : h[i']? = some ob := by rw [← hget_eq]; exact hob
        have he := Nat.eq_of_beq_eq_true hep
        have hr := toC_ok hd' hu
        have hlen : u.cells.size = i.size := by
         have := relC_length hr
         rw [hn] at this
         rw [h2]; simpa using this
        have hpos : 0 < u.cells.size := by omega
        ·obtain ⟨b, w', k1, k2, k3⟩ := store_obj (P := P) m hob' he hfz hv (relC_iff.1 hr).2.2 (by simpa using hpos) (c := c) (fun vs hvs => relC_put hp hC hvs hr)
         subst k1
         refine ⟨w', run_storeAt h1 hlen k2, ?_⟩
         rw [hset_eq]
         have : (⟨e', c, false⟩ : AO) = { ob with c := c } := by rw [← he, ← hfz]
         rw [this]; exact k3
       ·cases hev
     ·cases hev
    ·cases hev
   ·cases hev
  ·rename_i i' e' k' j' sz' d hd'
   rw [stPZ_no hd' hnz] at hev
   unfold stPN at hev
   split at hev
   ·rename_i us
    split at hev
    ·rename_i n' f' fz' hrow
     split at hev
     ·split at hev
      ·rename_i xs hxs
       split at hev
       ·rename_i l' hl'
        split at hev
        ·rename_i hm
         cases hev
         have hk : k' < n' := hC
         obtain ⟨ob, q1, q2, q3, q4⟩ := rowP_ok hrow
         obtain ⟨p1, p2⟩ := fput_eq _ _ _ _ hl'
         rw [normF_len] at p1
         have hr := toC_ok hd' hu
         simp only [relC] at hr
         have hmm := Nat.eq_of_beq_eq_true hm
         rw [llen_eq] at hmm
         have hlen : u.cells.size = i.size := by
          have := relL_length hr.1
          rw [h2, ← hmm, ← this, Array.length_toList]
         have hpos : 0 < u.cells.size := by omega
         have hxl := relFL_iff.1 (fvDL_ok hxs hr.1)
         have hll : l'.length = sz' := by rw [p2]; simp [normF_len]; omega
         obtain ⟨b, w', k1, k2, k3⟩ := store_obj (P := P) m q1 q2 q4 (rel_pel.1 hv) hr.2 (by simpa using hpos) (c := .rw n' sz' (fupd f' k' l')) (fun vs hvs => by
          rw [q3] at hvs
          simp only [relC] at hvs ⊢
          obtain ⟨y1, y2⟩ := relFL_upd (us := u.cells.toList) hk hll (fvDL_ok hxs hr.1) p1 p2 hvs.1
          exact ⟨⟨y1, ones_app (ones_app (ones_sub hvs.2 fun u hu => List.mem_of_mem_take hu) hr.2) (ones_sub hvs.2 fun u hu => List.mem_of_mem_drop hu)⟩, y2⟩)
         subst k1
         refine ⟨w', run_storeAt h1 hlen k2, ?_⟩
         rw [hset_eq]
         have : (⟨e', .rw n' sz' (fupd f' k' l'), false⟩ : AO) = { ob with c := .rw n' sz' (fupd f' k' l') } := by rw [← q2, ← q4]
         rw [this]; exact k3
        ·cases hev
       ·cases hev
      ·cases hev
     ·cases hev
    ·cases hev
   ·cases hev
  ·cases hev
 ·rename_i ht
  simp only [ev, xv] at hev
  split at hev
  ·rename_i i' e' o' d hd'
   split at hev
   ·rename_i ob hob
    split at hev
    ·rename_i hep
     split at hev
     ·rename_i hfz
      split at hev
      ·rename_i C' c hp
       cases hev
       have hob' : h[i']? = some ob := by rw [← hget_eq]; exact hob
       have he := Nat.eq_of_beq_eq_true hep
       obtain ⟨rfl, k4, k5⟩ := one1_cells hd' hu
       have hsz : i.size = 1 := h2.trans (hone (by simpa using ht))
       have hlen : u.cells.size = i.size := by
        rw [hsz, ← Array.length_toList, k4]; rfl
       obtain ⟨b, w', k1, k2, k3⟩ := store_obj (P := P) m hob' he hfz hv (us := [u]) (fun x hx => by simp at hx; rw [hx]; exact k5) (by simp) (c := c) (fun vs hvs => by
        obtain ⟨q1, q2⟩ := relC_set hp hC hvs hu k5
        refine ⟨?_, q2⟩
        rw [List.set_eq_take_append_cons_drop, if_pos q2] at q1
        simpa [List.append_assoc] using q1)
       subst k1
       refine ⟨w', run_storeAt h1 hlen (by rw [k4]; exact k2), ?_⟩
       rw [hset_eq]
       have : (⟨e', c, false⟩ : AO) = { ob with c := c } := by rw [← he, ← hfz]
       rw [this]; exact k3
      ·cases hev
     ·cases hev
    ·cases hev
   ·cases hev
  ·rename_i i' e' k' j' sz' d hd'
   unfold stP1 at hev
   split at hev
   ·rename_i n' f' fz' hrow
    split at hev
    ·split at hev
     ·rename_i x hx
      split at hev
      ·rename_i l' hl'
       cases hev
       have hk : k' < n' := hC
       obtain ⟨ob, q1, q2, q3, q4⟩ := rowP_ok hrow
       obtain ⟨p1, p2⟩ := fset_eq _ _ _ _ hl'
       rw [normF_len] at p1
       obtain ⟨rfl, k4, k5⟩ := one1_cells hd' hu
       have hsz : i.size = 1 := h2.trans (hone (by simpa using ht))
       have hlen : u.cells.size = i.size := by
        rw [hsz, ← Array.length_toList, k4]; rfl
       have hxl : relFL E [x] [u] := by simp only [relFL]; exact ⟨u, [], rfl, fvD_ok hx hu, rfl⟩
       have hll : l'.length = sz' := by rw [p2]; simp [normF_len]
       have hle : l' = (normF sz' (f' k')).take j' ++ [x] ++ (normF sz' (f' k')).drop (j' + [x].length) := by
        rw [p2, List.set_eq_take_append_cons_drop, if_pos (by rw [normF_len]; exact p1)]; simp [List.append_assoc]
       obtain ⟨b, w', k1, k2, k3⟩ := store_obj (P := P) m q1 q2 q4 (rel_pel.1 hv) (us := [u]) (fun y hy => by simp at hy; rw [hy]; exact k5) (by simp) (c := .rw n' sz' (fupd f' k' l')) (fun vs hvs => by
        rw [q3] at hvs
        simp only [relC] at hvs ⊢
        obtain ⟨y1, y2⟩ := relFL_upd (us := [u]) hk hll hxl (by simp only [List.length_cons, List.length_nil]; omega) hle hvs.1
        exact ⟨⟨y1, ones_app (ones_app (ones_sub hvs.2 fun u hu => List.mem_of_mem_take hu) (fun y hy => by simp at hy; rw [hy]; exact k5)) (ones_sub hvs.2 fun u hu => List.mem_of_mem_drop hu)⟩, y2⟩)
       subst k1
       refine ⟨w', run_storeAt h1 hlen (by rw [k4]; exact k2), ?_⟩
       rw [hset_eq]
       have : (⟨e', .rw n' sz' (fupd f' k' l'), false⟩ : AO) = { ob with c := .rw n' sz' (fupd f' k' l') } := by rw [← q2, ← q4]
       rw [this]; exact k3
      ·cases hev
     ·cases hev
    ·cases hev
   ·cases hev
  ·rename_i d hd'
   obtain ⟨rfl, k4, k5⟩ := one1_cells hd' hu
   have hb : (∃ x, u = u8v x) ∧ C = none ∧ h' = h := by
    split at hev
    ·cases hev; simp only [rel] at hu; exact ⟨⟨_, hu⟩, rfl, rfl⟩
    ·cases hev; simp only [rel] at hu; exact ⟨hu, rfl, rfl⟩
    ·cases hev
   obtain ⟨hb, rfl, rfl⟩ := hb
   simp only [rel] at hv
   obtain ⟨b, o, rfl, ho⟩ := hv
   have hsz : i.size = 1 := h2.trans (hone (by simpa using ht))
   have hlen : u.cells.size = i.size := by
    rw [hsz, ← Array.length_toList, k4]; rfl
   obtain ⟨w', k2, k3⟩ := m.writeW (P := P) ho hb
   exact ⟨w', run_storeAt h1 hlen (by rw [k4]; exact k2), k3⟩
  ·cases hev

end
section
variable {P : Program} {ti : Nat → TInf} {B : Base} {E : Env} {h : List AO} {w : World} {g : Nat → AV} {a : Act} {o : Oper} {sp : Sp}

theorem rel_new_ptr {b s : Nat} : rel (E.name h.length b s 0) (.ptr (hlen h) 0 0) (.pointer (some ⟨b, 0, none⟩)) := by
 simp only [rel, Env.name, hlen_eq, if_true]
 exact ⟨Nat.le_refl _, by simp, ⟨_, rfl⟩, fun _ => ⟨b, s, rfl, rfl⟩⟩

theorem Post.new_ptr (m : Mem B E h w) {c : AV} {cs : Array Value} {T : TypeId} (hc : relC E c cs.toList) : Post B E (hsnoc h ⟨0, c, false⟩) (.ptr (hlen h) 0 0) (.pointer (some ⟨w.heap.size, 0, none⟩)) (w.alloc (.cells cs T)) := by
 obtain ⟨le, m'⟩ := m.allocO (cs := cs) (T := T) (fr := (0, 0)) (vs := cs.toList) (post := []) (by simp) hc (.inl rfl)
 exact ⟨_, le, by rw [hsnoc_eq]; exact m', rel_new_ptr⟩

theorem alloc_ok (m : Mem B E h w) (hti : TIok P ti) {T : TypeId} (hd : (ti T).d ≠ .other) {z : AV} (hz : toC (ti T).zero = some z) :
  ∃ v w', (Instr.alloc T true (.tuple #[])).run P w = .ok v w' ∧ Post B E (hsnoc h ⟨0, z, false⟩) (.ptr (hlen h) 0 0) v w' := by
 obtain ⟨⟨i, zv, h1, h2, _, h3, h4, h5⟩, hdesc, hone⟩ := hti.get rfl hd
 refine ⟨_, _, ?_, Post.new_ptr m (T := T) (toC_ok hz (h4 E))⟩
 simp [Instr.alloc, run_zero w h1 h3, newVar, newRow]

theorem box_ok (m : Mem B E h w) {T : TypeId} {A c : AV} {v : Value} (hv : rel E A v) (hc : toC A = some c) : ∃ r w', (Instr.box T v).run P w = .ok r w' ∧ Post B E (hsnoc h ⟨0, c, false⟩) (.ptr (hlen h) 0 0) r w' := by
 refine ⟨_, _, ?_, Post.new_ptr m (T := T) (toC_ok hc hv)⟩
 simp [Instr.box, newVar, newRow]

theorem foldl_put (off : Nat) : ∀ (us : List Value) (k : Nat) (cs : Array Value), off + k + us.length ≤ cs.size →
  ((us.zipIdx k).foldl (fun cs (p : Value × Nat) => cs.setIfInBounds (off + p.2) p.1) cs).toList = cs.toList.take (off + k) ++ us ++ cs.toList.drop (off + k + us.length)
 | [], k, cs, _ => by simp
 | u :: us, k, cs, hl => by
   simp only [List.zipIdx_cons, List.foldl_cons]
   rw [foldl_put off us (k + 1) _ (by simp at hl ⊢; omega)]
   simp only [Array.toList_setIfInBounds]
   have := list_seg_step cs.toList (off + k) u us (by simp at hl ⊢; omega)
   simpa [Nat.add_assoc] using this

theorem fill_ok {place : Nat → Option (Nat × Nat)} : ∀ (ps : List (Nat × Nat × X)) (parts : List (Nat × Value)) (zl l : List AV) (cs : Array Value),
  ps.length = parts.length → (∀ (k : Nat) (p : Nat × Nat × X) (q : Nat × Value), ps[k]? = some p → parts[k]? = some q → place q.1 = some (p.1, p.2.1) ∧ rel E (xv g p.2.2) q.2) →
  relL E zl cs.toList → ones cs.toList → lay g zl ps = some l → ∃ cs', Instr.fill place cs parts = some cs' ∧ relL E l cs'.toList ∧ ones cs'.toList
 | [], [], zl, l, cs, _, _, hz, h1, hl => by simp only [lay, Option.some.injEq] at hl; subst hl; exact ⟨cs, rfl, hz, h1⟩
 | [], _ :: _, _, _, _, hlen, _, _, _, _ => by simp at hlen
 | _ :: _, [], _, _, _, hlen, _, _, _, _ => by simp at hlen
 | (off, size, x) :: ps, (i, v) :: parts, zl, l, cs, hlen, hall, hz, h1, hl => by
   obtain ⟨hp, hx⟩ := hall 0 _ _ rfl rfl
   simp only [lay] at hl
   split at hl
   ·rename_i m hm
    split at hl
    ·rename_i hs
     split at hl
     ·rename_i z' hz'
      have hr := toC_ok hm hx
      obtain ⟨_, hr1, hr2⟩ := relC_iff.1 hr
      have hsz : v.cells.size = size := by
       have := relL_length hr1
       simp only [cells] at this
       rw [← llen_eq, Nat.eq_of_beq_eq_true hs] at this
       simpa using this
      obtain ⟨k1, k2⟩ := lput_eq _ _ _ _ hz'
      have hml : m.length = size := by rw [← llen_eq]; exact Nat.eq_of_beq_eq_true hs
      have hzl := relL_length hz
      have hfit : off + v.cells.size ≤ cs.size := by
       rw [hsz, ← hml]
       have : cs.size = zl.length := by simpa using hzl
       omega
      have hput := foldl_put off v.cells.toList 0 cs (by simpa using hfit)
      have he : (v.cells.zipIdx.foldl (fun cs (p : Value × Nat) => cs.setIfInBounds (off + p.2) p.1) cs) = (v.cells.toList.zipIdx 0).foldl (fun cs (p : Value × Nat) => cs.setIfInBounds (off + p.2) p.1) cs := by
       rw [← Array.foldl_toList, Array.toList_zipIdx]
      have hz2 : relL E z' ((v.cells.zipIdx.foldl (fun cs (p : Value × Nat) => cs.setIfInBounds (off + p.2) p.1) cs)).toList := by
       rw [he, hput, k2, Nat.add_zero]
       have : v.cells.toList.length = m.length := by simp [hsz, hml]
       rw [this]
       exact relL_app (relL_app (relL_take hz _) (by simpa [cells] using hr1)) (relL_drop hz _)
      have h12 : ones ((v.cells.zipIdx.foldl (fun cs (p : Value × Nat) => cs.setIfInBounds (off + p.2) p.1) cs)).toList := by
       rw [he, hput]
       exact ones_app (ones_app (ones_sub h1 fun u hu => List.mem_of_mem_take hu) hr2) (ones_sub h1 fun u hu => List.mem_of_mem_drop hu)
      obtain ⟨cs', q1, q2, q3⟩ := fill_ok ps parts z' l _ (by simpa using hlen) (fun k p q hp hq => hall (k + 1) p q (by simpa using hp) (by simpa using hq)) hz2 h12 hl
      refine ⟨cs', ?_, q2, q3⟩
      simp only [Instr.fill, hp]
      rw [if_neg (by simp [hsz]; omega)]
      exact q1
     ·cases hl
    ·cases hl
   ·cases hl

theorem partsOf_ok {offs : List (Nat × Nat)} : ∀ {parts : List (Nat × Operand)} {ps : List (Nat × Nat × X)}, partsOf offs parts = some ps → ps.length = parts.length ∧
  ∀ (k : Nat) (p : Nat × Nat × X) (q : Nat × Operand), ps[k]? = some p → parts[k]? = some q → offs[q.1]? = some (p.1, p.2.1) ∧ p.2.2 = xof q.2
 | [], ps, h => by simp only [partsOf, Option.some.injEq] at h; subst h; exact ⟨rfl, fun k p q hp => by simp at hp⟩
 | (i, x) :: parts, ps, h => by
   simp only [partsOf] at h
   split at h
   ·rename_i o z m ho hm
    cases h
    obtain ⟨h1, h2⟩ := partsOf_ok hm
    refine ⟨by simp [h1], fun k p q hp hq => ?_⟩
    cases k with
    | zero => simp at hp hq; subst hp hq; exact ⟨ho, rfl⟩
    | succ k => exact h2 k p q (by simpa using hp) (by simpa using hq)
   ·cases h
theorem partsEl_ok {n sz : Nat} : ∀ {parts : List (Nat × Operand)} {ps : List (Nat × Nat × X)}, partsEl n sz parts = some ps → ps.length = parts.length ∧
  ∀ (k : Nat) (p : Nat × Nat × X) (q : Nat × Operand), ps[k]? = some p → parts[k]? = some q → (p.1, p.2.1) = (q.1 * sz, sz) ∧ p.2.2 = xof q.2
 | [], ps, h => by simp only [partsEl, Option.some.injEq] at h; subst h; exact ⟨rfl, fun k p q hp => by simp at hp⟩
 | (i, x) :: parts, ps, h => by
   simp only [partsEl] at h
   split at h
   ·rename_i m ho hm
    cases h
    obtain ⟨h1, h2⟩ := partsEl_ok hm
    refine ⟨by simp [h1], fun k p q hp hq => ?_⟩
    cases k with
    | zero => simp at hp hq; subst hp hq; exact ⟨rfl, rfl⟩
    | succ k => exact h2 k p q (by simpa using hp) (by simpa using hq)
   ·cases h

theorem zero_agg {z : List AV} {zv : Value} (hz : rel E (.agg z) zv) : relL E z zv.cells.toList ∧ ones zv.cells.toList := by
 simp only [rel] at hz
 obtain ⟨vs, rfl, h1, h2⟩ := hz
 exact ⟨h1, h2⟩

theorem parts_rel (hg : ∀ k, rel E (g k) (a.tmps.getD k undef)) {ps : List (Nat × Nat × X)} {parts : Array (Nat × Operand)} {pl : Nat → Option (Nat × Nat)}
  (h2 : ∀ (k : Nat) (p : Nat × Nat × X) (q : Nat × Operand), ps[k]? = some p → parts.toList[k]? = some q → pl q.1 = some (p.1, p.2.1) ∧ p.2.2 = xof q.2) :
  ∀ (k : Nat) (p : Nat × Nat × X) (q : Nat × Value), ps[k]? = some p → (parts.map fun (i, x) => (i, a.eval x)).toList[k]? = some q → pl q.1 = some (p.1, p.2.1) ∧ rel E (xv g p.2.2) q.2 := by
 intro k p q hp hq
 simp only [Array.toList_map, List.getElem?_map] at hq
 cases hk : parts.toList[k]? with
 | none => rw [hk] at hq; cases hq
 | some r =>
   rw [hk] at hq
   simp only [Option.map_some, Option.some.injEq] at hq
   subst hq
   obtain ⟨e1, e2⟩ := h2 k p r hp hk
   exact ⟨e1, by rw [e2]; exact rel_x hg r.2⟩

theorem build_ok (hti : TIok P ti) (hg : ∀ k, rel E (g k) (a.tmps.getD k undef)) {T : TypeId} {parts : Array (Nat × Operand)} {mu : List Nat} {t' : TypeId} {d : Option Tmp} {pos : String} {af : Array Edge} {gd : Option (Nat × Bool)} {C : Option Prop} {R : AV}
  (hev : ev sp g h (compOp ti mu ⟨d, .build T parts, t', pos, af, gd⟩) = .v C R) : ∃ v, (Instr.build T (parts.map fun (i, x) => (i, a.eval x))).run P w = .ok v w ∧ rel E R v := by
 simp only [compOp] at hev
 split at hev
 ·rename_i offs z hd hz
  split at hev
  ·rename_i ps hps
   simp only [ev] at hev
   split at hev
   ·rename_i l hl
    cases hev
    obtain ⟨⟨i, zv, h1, h2, _, h3, h4, h5⟩, hdesc, _⟩ := hti.get hd (by simp)
    rw [hd] at hdesc
    obtain ⟨fs, hu, hm⟩ := hdesc
    have hzr := h4 E
    rw [hz] at hzr
    obtain ⟨z1, z2⟩ := zero_agg hzr
    obtain ⟨p1, p2⟩ := partsOf_ok hps
    obtain ⟨cs', f1, f2, f3⟩ := fill_ok (E := E) (g := g) (place := (offs[·]?)) ps (parts.map fun (i, x) => (i, a.eval x)).toList z l zv.cells (by simp [p1]) (parts_rel hg p2) z1 z2 hl
    refine ⟨.agg cs', run_build w T _ cs' ?_, by simp only [rel]; exact ⟨cs', rfl, f2, f3⟩⟩
    unfold Program.built
    simp only [h1, hu, h3, hm]
    simpa using f1
   ·cases hev
  ·simp only [ev, reduceCtorEq] at hev
 ·rename_i n e z hd hz
  split at hev
  ·simp only [ev, reduceCtorEq] at hev
  ·rename_i hde
   split at hev
   ·rename_i ps hps
    simp only [ev] at hev
    split at hev
    ·rename_i l hl
     cases hev
     obtain ⟨⟨i, zv, h1, h2, _, h3, h4, h5⟩, hdesc, _⟩ := hti.get hd (by simp)
     rw [hd] at hdesc
     obtain ⟨⟨ie, ze, k1, k2, _⟩, _, _⟩ := hti.get (T := e) rfl (fun h => hde h)
     have hzr := h4 E
     rw [hz] at hzr
     obtain ⟨z1, z2⟩ := zero_agg hzr
     obtain ⟨p1, p2⟩ := partsEl_ok hps
     obtain ⟨cs', f1, f2, f3⟩ := fill_ok (E := E) (g := g) (place := fun i => some (i * (ti e).size, (ti e).size)) ps (parts.map fun (i, x) => (i, a.eval x)).toList z l zv.cells (by simp [p1])
      (parts_rel hg (pl := fun i => some (i * (ti e).size, (ti e).size)) (fun k p q hp hq => ⟨by rw [(p2 k p q hp hq).1], (p2 k p q hp hq).2⟩)) z1 z2 hl
     refine ⟨.agg cs', run_build w T _ cs' ?_, by simp only [rel]; exact ⟨cs', rfl, f2, f3⟩⟩
     unfold Program.built
     simp only [Desc] at hdesc
     simp only [h1, hdesc, h3, k1, k2]
     exact f1
    ·cases hev
   ·simp only [ev, reduceCtorEq] at hev
 ·simp only [ev, reduceCtorEq] at hev

theorem ab?_ok : ∀ {l : List AV} {m : List UInt8}, ab? l = some m → l = m.map .u8
 | [], m, h => by simp only [ab?, Option.some.injEq] at h; subst h; rfl
 | a :: l, m, h => by
   cases a <;> simp only [ab?, reduceCtorEq] at h
   split at h
   ·rename_i m' hm; cases h; rw [ab?_ok hm]; rfl
   ·cases h
theorem ai?_ok : ∀ {l : List AV} {m : List Int}, ai? l = some m → l = m.map .int
 | [], m, h => by simp only [ai?, Option.some.injEq] at h; subst h; rfl
 | a :: l, m, h => by
   cases a <;> simp only [ai?, reduceCtorEq] at h
   split at h
   ·rename_i m' hm; cases h; rw [ai?_ok hm]; rfl
   ·cases h
theorem au?_ok : ∀ {l : List AV} {m : List UInt32}, au? l = some m → l = m.map .u32
 | [], m, h => by simp only [au?, Option.some.injEq] at h; subst h; rfl
 | a :: l, m, h => by
   cases a <;> simp only [au?, reduceCtorEq] at h
   split at h
   ·rename_i m' hm; cases h; rw [au?_ok hm]; rfl
   ·cases h
theorem typed_ok {k : EK} {l : List AV} {c : AV} (h : typed k l = some c) : isC c = true ∧ cells c = l := by
 cases k <;> simp only [typed] at h
 ·split at h
  ·rename_i m hm; cases h; exact ⟨rfl, by simp only [cells]; exact (ab?_ok hm).symm⟩
  ·cases h
 ·split at h
  ·rename_i m hm; cases h; exact ⟨rfl, by simp only [cells]; exact (au?_ok hm).symm⟩
  ·cases h
 ·split at h
  ·rename_i m hm; cases h; exact ⟨rfl, by simp only [cells]; exact (ai?_ok hm).symm⟩
  ·cases h
 ·cases h; exact ⟨rfl, rfl⟩

theorem lrep_length : ∀ (n : Nat) (z : List AV), (lrep n z).length = n * z.length
 | 0, z => by simp [lrep]
 | n + 1, z => by simp [lrep, lapp_eq, lrep_length n z, Nat.succ_mul, Nat.add_comm]
theorem lrep_get : ∀ (n : Nat) (z : List AV) (i : Nat), i < n * z.length → (lrep n z)[i]? = z[i % z.length]?
 | 0, z, i, h => by omega
 | n + 1, z, i, h => by
   simp only [lrep, lapp_eq]
   rcases Nat.lt_or_ge i z.length with hlt | hge
   ·rw [List.getElem?_append_left hlt, Nat.mod_eq_of_lt hlt]
   ·rw [List.getElem?_append_right hge, lrep_get n z (i - z.length) (by rw [Nat.succ_mul] at h; omega), ← Nat.mod_eq_sub_mod hge]

theorem rel_made {z : List AV} {zc : Array Value} (hz : relL E z zc.toList) (n : Nat) : relL E (lrep n z) (madeCells zc (n * z.length)).toList := by
 have hl : zc.size = z.length := by simpa using relL_length hz
 obtain ⟨h1, h2⟩ := relL_iff.1 hz
 refine relL_iff.2 ⟨by simp [madeCells, lrep_length], fun i hi hi' => ?_⟩
 rw [lrep_length] at hi
 have hpos : 0 < z.length := by
  rcases Nat.eq_zero_or_pos z.length with h | h
  ·rw [h] at hi; omega
  ·exact h
 have hm : i % z.length < z.length := Nat.mod_lt _ hpos
 have e1 : (lrep n z)[i]'(by rw [lrep_length]; exact hi) = z[i % z.length] := by
  have := lrep_get n z i hi
  rw [List.getElem?_eq_getElem (by rw [lrep_length]; exact hi), List.getElem?_eq_getElem hm] at this
  exact Option.some.inj this
 have e2 : (madeCells zc (n * z.length)).toList[i] = zc.toList[i % z.length]'(by simp; omega) := by
  simp only [madeCells, Array.getElem_toList, Array.getElem_map, Array.getElem_range, hl]
  rw [getElem!_pos zc (i % z.length) (by omega)]
 rw [e1, e2]
 exact h2 _ _ _

theorem ones_made {zc : Array Value} (h1 : ones zc.toList) {m : Nat} (hz : m = 0 ∨ 0 < zc.size) : ones (madeCells zc m).toList := by
 intro u hu
 rcases hz with hz | hz
 ·subst hz; simp [madeCells] at hu
 ·simp only [madeCells, Array.mem_toList_iff, Array.mem_map] at hu
  obtain ⟨i, _, rfl⟩ := hu
  have : i % zc.size < zc.size := Nat.mod_lt _ hz
  rw [getElem!_pos zc _ this]
  exact h1 _ (by simp)

theorem Post.new_sl (m : Mem B E h w) {c : AV} {cs : Array Value} {T : TypeId} {n sz : Nat} (hc : relC E c cs.toList) (hl : cs.size = n * sz) : Post B E h (.sl false n sz c true) (.slice (some ⟨w.heap.size, 0, none⟩) n n) (w.alloc (.cells cs T)) := by
 obtain ⟨le, m'⟩ := m.allocP cs T (0, 0)
 refine ⟨_, le, m', ?_⟩
 simp only [rel, Bool.false_eq_true, if_false]
 exact ⟨⟨w.heap.size, 0, none⟩, n, cs.toList, rfl, Nat.le_refl _, fun _ => rfl, .inr ⟨w.heap.size, 0, rfl, cs, [], [], by simp [Env.keep], by simp, rfl⟩, by simpa using hl, relC.mono le _ _ hc⟩
theorem Post.new_ms (m : Mem B E h w) {c : AV} {cs : Array Value} {T : TypeId} {fr : Nat × Nat} {n cap sz : Nat} {vs post : List Value} (hcs : cs.toList = vs ++ post) (hc : relC E c vs) (hn : n ≤ cap) (hl : cap * sz ≤ cs.size)
  (hfr : okFr fr cs.size) : Post B E (hsnoc h ⟨0, c, false⟩) (.ms false (hlen h) 0 0 n sz) (.slice (some ⟨w.heap.size, 0, none⟩) n cap) (w.alloc (.cells cs T fr)) := by
 obtain ⟨le, m'⟩ := m.allocO (T := T) hcs hc hfr
 refine ⟨_, le, by rw [hsnoc_eq]; exact m', ?_⟩
 simp only [rel, Bool.false_eq_true, if_false, Env.name, hlen_eq, if_true]
 exact ⟨Nat.le_refl _, by simp, _, cap, rfl, hn, fun _ => ⟨_, _, rfl, .inr rfl, by omega⟩⟩

theorem bsl_ok (m : Mem B E h w) (hti : TIok P ti) (hg : ∀ k, rel E (g k) (a.tmps.getD k undef)) {T e : TypeId} {n : Nat} {parts : Array (Nat × Operand)} (hd : (ti T).d = .slice e) (hde : (ti e).d ≠ .other) {z : List AV} (hz : toC (ti e).zero = some (.agg z))
  {ps : List (Nat × Nat × X)} (hps : partsEl n (ti e).size parts.toList = some ps) (hn : n * (ti e).size ≤ 16777216) {l : List AV} (hl : lay g (lrep n z) ps = some l) {k : EK} {c : AV} (hc : typed k l = some c) :
  ∃ v w', (Instr.buildSlice T n (parts.map fun (i, x) => (i, a.eval x))).run P w = .ok v w' ∧ Post B E h (.sl false n (ti e).size c true) v w' ∧ Post B E (hsnoc h ⟨0, c, false⟩) (.ms false (hlen h) 0 0 n (ti e).size) v w' := by
 obtain ⟨_, hdesc, _⟩ := hti.get hd (by simp)
 rw [hd] at hdesc
 obtain ⟨⟨ie, ze, k1, k2, _, k3, k4, k5⟩, _, _⟩ := hti.get (T := e) rfl hde
 have hzc := toC_ok hz (k4 E)
 obtain ⟨_, z1, z2⟩ := relC_iff.1 hzc
 simp only [cells] at z1
 have hzl : z.length = ze.cells.size := by simpa using (relL_length z1).symm
 have hz0 : z.length = (ti e).size := hzl.trans k5
 have hmade := rel_made z1 n
 have h1m := ones_made z2 (m := n * z.length) (by
  rcases Nat.eq_zero_or_pos z.length with h | h
  ·left; simp [h]
  ·right; omega)
 rw [hz0] at hmade h1m
 obtain ⟨p1, p2⟩ := partsEl_ok hps
 obtain ⟨cs', f1, f2, f3⟩ := fill_ok (E := E) (g := g) (place := fun i => some (i * (ti e).size, (ti e).size)) ps (parts.map fun (i, x) => (i, a.eval x)).toList (lrep n z) l (madeCells ze.cells (n * (ti e).size)) (by simp [p1])
  (parts_rel hg (pl := fun i => some (i * (ti e).size, (ti e).size)) (fun k p q hp hq => ⟨by rw [(p2 k p q hp hq).1], (p2 k p q hp hq).2⟩)) hmade h1m hl
 obtain ⟨c1, c2⟩ := typed_ok hc
 have hcs : relC E c cs'.toList := relC_iff.2 ⟨c1, by rw [c2]; exact f2, f3⟩
 have hlen : cs'.size = n * (ti e).size := by
  have := relC_length hcs
  rw [clen_eq, c2] at this
  have hl2 : l.length = n * (ti e).size := by
   have : ∀ (ps : List (Nat × Nat × X)) (zl l : List AV), lay g zl ps = some l → l.length = zl.length := by
    intro ps
    induction ps with
    | nil => intro zl l h; simp only [lay, Option.some.injEq] at h; rw [h]
    | cons p ps ih =>
      intro zl l h
      obtain ⟨off, size, x⟩ := p
      simp only [lay] at h
      split at h
      ·split at h
       ·split at h
        ·rename_i z' hz'
         obtain ⟨q1, q2⟩ := lput_eq _ _ _ _ hz'
         rw [ih _ _ h, q2]; simp; omega
        ·cases h
       ·cases h
      ·cases h
   rw [this ps _ _ hl, lrep_length, hz0]
  rw [hl2] at this
  simpa using this
 have hrun : (Instr.buildSlice T n (parts.map fun (i, x) => (i, a.eval x))).run P w = .ok (.slice (some ⟨w.heap.size, 0, none⟩) n n) (w.alloc (.cells cs' e)) := by
  simp only [Desc] at hdesc
  have hn' : ¬ (16777216 < n * (ti e).size) := by omega
  by_cases h0 : n * (ti e).size = 0
  ·have f1' : Instr.fill (fun i => some (i * (ti e).size, (ti e).size)) #[] (parts.map fun (i, x) => (i, a.eval x)).toList = some cs' := by
    rw [← f1, h0, show madeCells ze.cells 0 = #[] from by simp [madeCells, Array.range_zero']]
   simp only [Array.toList_map] at f1'
   simp [Instr.buildSlice, run_underlying hdesc, run_size w k1, k2, h0, Array.range_zero', f1', newRow]
  ·have f1' := f1
   simp only [madeCells, Array.toList_map] at f1'
   simp [Instr.buildSlice, run_underlying hdesc, run_size w k1, k2, h0, hn', run_zero w k1 k3, f1', newRow]
 refine ⟨_, _, hrun, Post.new_sl m hcs hlen, Post.new_ms m (vs := cs'.toList) (post := []) (by simp) hcs (Nat.le_refl _) (by omega) (.inl rfl)⟩

end
section
variable {P : Program} {ti : Nat → TInf} {B : Base} {E : Env} {h : List AO} {w : World} {g : Nat → AV} {a : Act} {o : Oper} {sp : Sp}

theorem mulz_eq (i sz : Nat) : mulz i sz = i * sz := by
 unfold mulz; split
 ·rename_i h; rw [Nat.eq_of_beq_eq_true h, Nat.mul_one]
 ·rfl

theorem rel_made' {z : List AV} {zc : Array Value} (hz : relL E z zc.toList) (n m : Nat) (hm : n * z.length ≤ m) : relL E (lrep n z) ((madeCells zc m).toList.take (n * z.length)) := by
 have : (madeCells zc m).toList.take (n * z.length) = (madeCells zc (n * z.length)).toList := by
  apply List.ext_getElem
  ·simp [madeCells]; omega
  ·intro i h1 h2
   simp [madeCells]
 rw [this]; exact rel_made hz n
theorem zeros_ok {k : EK} {z : List AV} (hz : zok k z = true) (n : Nat) : isC (zeros k n z) = true ∧ cells (zeros k n z) = lrep n z := by
 have rep : ∀ (A : AV) (n : Nat), lrep n [A] = List.replicate n A := fun A n => by
  induction n with
  | zero => rfl
  | succ n ih => simp only [lrep, lapp, ih]; rfl
 unfold zok at hz
 split at hz
 ·have := eq_of_beq hz; subst this; refine ⟨rfl, ?_⟩; simp [zeros, cells, rep]
 ·have := eq_of_beq hz; subst this; refine ⟨rfl, ?_⟩; simp [zeros, cells, rep]
 ·have := eq_of_beq hz; subst this; refine ⟨rfl, ?_⟩; simp [zeros, cells, rep]
 ·exact ⟨rfl, rfl⟩
 ·cases hz

theorem mksl_ok (m : Mem B E h w) (hti : TIok P ti) {T e : TypeId} (hd : (ti T).d = .slice e) (hde : (ti e).d ≠ .other) {z : List AV} (hz : toC (ti e).zero = some (.agg z)) {k : EK} (hk : zok k z = true) (hb : (ti e).bytes ≠ 0)
  {l c : Int} (h0 : 0 ≤ l) (h1 : l ≤ c) (h2 : c * (ti e).bytes ≤ 140737488355328) :
  ∃ v w', (Instr.makeSlice T (intv l) (intv c)).run P w = .ok v w' ∧ Post B E (hsnoc h ⟨0, zeros k l.toNat z, false⟩) (.ms false (hlen h) 0 0 l.toNat (ti e).size) v w' := by
 obtain ⟨_, hdesc, _⟩ := hti.get hd (by simp)
 rw [hd] at hdesc
 obtain ⟨⟨ie, ze, k1, k2, kb, k3, k4, k5⟩, _, _⟩ := hti.get (T := e) rfl hde
 obtain ⟨_, z1, z2⟩ := relC_iff.1 (toC_ok hz (k4 E))
 simp only [cells] at z1
 have hz0 : z.length = (ti e).size := (by simpa using (relL_length z1).symm : z.length = ze.cells.size).trans k5
 have hc : c ≤ 140737488355328 := by
  have hb1 : (1 : Int) ≤ (ti e).bytes := by omega
  have := Int.mul_le_mul_of_nonneg_left hb1 (show 0 ≤ c by omega)
  omega
 have hrun := run_make (P := P) w T e ie ze hdesc k1 k3 .i64 .i64 l c h0 h1 (by rw [kb, Int.mul_comm]; omega) (by omega)
 refine ⟨_, _, hrun, ?_⟩
 have hle : l.toNat * z.length ≤ c.toNat * ie.size := by rw [k2, hz0]; exact Nat.mul_le_mul_right _ (by omega)
 obtain ⟨y1, y2⟩ := zeros_ok hk l.toNat
 have hones : ones (madeCells ze.cells (c.toNat * ie.size)).toList := ones_made z2 (by
  rcases Nat.eq_zero_or_pos ie.size with h | h
  ·left; simp [h]
  ·right; rw [k5, ← k2]; exact h)
 refine Post.new_ms m (vs := (madeCells ze.cells (c.toNat * ie.size)).toList.take (l.toNat * z.length)) (post := (madeCells ze.cells (c.toNat * ie.size)).toList.drop (l.toNat * z.length)) (by rw [List.take_append_drop]) ?_ (by omega) ?_ (.inl rfl)
 ·exact relC_iff.2 ⟨y1, by rw [y2]; exact rel_made' z1 _ _ hle, ones_sub hones fun u hu => List.mem_of_mem_take hu⟩
 ·rw [size_madeCells, k2]; exact Nat.le_refl _

theorem rdS_ok (m : Mem B E h w) {sz n : Nat} {A d : AV} {C : Option Prop} (hr : rdS h sz A = some (C, n, d)) (hC : holds C) {v : Value} (hv : rel E A v) :
  ∃ ad cap vs, v = .slice ad n cap ∧ n ≤ cap ∧ relC E d vs ∧ vs.length = n * sz ∧ (vs = [] ∨ ∃ b o', ad = some ⟨b, o', none⟩ ∧ ∀ j u, vs[j]? = some u → w.cell? ⟨b, o' + j, none⟩ = some u) := by
 unfold rdS at hr
 split at hr
 ·rename_i nil n' sz' c full
  have key : (n' * sz' = n' * sz) → some (none, n', c) = some (C, n, d) → ∃ ad cap vs, v = .slice ad n cap ∧ n ≤ cap ∧ relC E d vs ∧ vs.length = n * sz ∧ (vs = [] ∨ ∃ b o', ad = some ⟨b, o', none⟩ ∧ ∀ j u, vs[j]? = some u → w.cell? ⟨b, o' + j, none⟩ = some u) := fun hsz he => by
   cases he
   simp only [rel] at hv
   split at hv
   ·obtain ⟨rfl, rfl, h3⟩ := hv
    exact ⟨none, 0, [], rfl, Nat.le_refl _, h3, by simp, .inl rfl⟩
   ·obtain ⟨a', cap, vs, rfl, h3, h4, h5, h6, h7⟩ := hv
    refine ⟨some a', cap, vs, rfl, h3, h7, by rw [h6, hsz], ?_⟩
    rcases h5 with h5 | ⟨b, o', rfl, h5⟩
    ·exact .inl h5
    ·exact .inr ⟨b, o', rfl, fun j u hu => m.at_cell h5 hu⟩
  split at hr
  ·rename_i hb; exact key (by rw [Nat.eq_of_beq_eq_true hb]) hr
  ·split at hr
   ·refine key ?_ hr
    simp only [rel, if_true] at hv
    rw [hv.2.1]; simp
   ·cases hr
 ·rename_i nil i e o' n' sz'
  ·split at hr
   ·rename_i ob hob
    split at hr
    ·rename_i hep
     split at hr
     ·rename_i hsz
      split at hr
      ·rename_i C' d' hs
       cases hr
       have hob' : h[i]? = some ob := by rw [← hget_eq]; exact hob
       have he := Nat.eq_of_beq_eq_true hep
       cases nil with
       | true =>
         simp only [rel, if_true] at hv
         obtain ⟨rfl, rfl⟩ := hv
         obtain ⟨b', s', vs, k1, k2, k3⟩ := m.row hob'
         have hsub := relC_sub hs hC k2
         rw [mulz_eq] at hsub
         simp only [Nat.zero_mul, List.take_zero] at hsub
         exact ⟨none, 0, [], rfl, Nat.le_refl _, hsub, by simp, .inl rfl⟩
       | false =>
       simp only [rel, Bool.false_eq_true, if_false] at hv
       obtain ⟨_, _, a', cap, rfl, h3, h4⟩ := hv
       obtain ⟨b, s, h5, h6, h7⟩ := h4 (by rw [← he]; exact (m.obj i ob hob').1.symm)
       obtain ⟨b', s', vs, k1, k2, k3⟩ := m.row hob'
       rw [h5] at k1; cases k1
       have hsub := relC_sub hs hC k2
       obtain ⟨_, _, hlen⟩ := csub_ok hs hC
       rw [mulz_eq] at hlen hsub
       have hl : n * sz = 0 ∨ o' + n * sz ≤ vs.length := by
        rcases Nat.eq_zero_or_pos (n * sz) with hz | hz
        ·exact .inl hz
        ·right; rw [relC_length k2, clen_eq]; exact hlen hz
       refine ⟨some a', cap, _, rfl, h3, hsub, by simp; omega, ?_⟩
       rcases h6 with rfl | rfl
       ·left
        have : n = 0 := by omega
        subst this; simp
       ·right
        refine ⟨b, o', rfl, fun j u hu => k3 _ u ?_⟩
        rw [List.getElem?_take] at hu
        split at hu
        ·exact get_of_drop hu
        ·cases hu
      ·cases hr
     ·cases hr
    ·cases hr
   ·cases hr
 ·rename_i nil l
  split at hr
  ·rename_i hb
   cases hr
   obtain rfl := Nat.eq_of_beq_eq_true hb
   simp only [rel, relO8] at hv
   split at hv
   ·obtain ⟨rfl, rfl⟩ := hv
    exact ⟨none, 0, [], rfl, Nat.le_refl _, by simp [relC], by simp, .inl rfl⟩
   ·obtain ⟨a', cap, vs, rfl, h3, h5, rfl⟩ := hv
    refine ⟨some a', cap, l.map u8v, rfl, h3, by simp only [relC], by simp, ?_⟩
    rcases h5 with h5 | ⟨b, rfl, h5, _⟩
    ·exact .inl h5
    ·exact .inr ⟨b, 0, rfl, fun j u hu => m.at_cell h5 hu⟩
  ·cases hr
 ·cases hr

theorem run_conv_int {s d : TypeId} {k : IntKind} {k' : IntKind} {ds : TypeDesc} (hs : P.underlying s = some ds) (hd : P.underlying d = some (.int k)) (n : Int) : (convert s d (.int k' n)).run P w = .ok (.int k (k.wrap n)) w := by
 simp only [convert, Sem.run_bind, run_underlying hs, run_underlying hd, Result.andThen_ok]
 rfl

theorem conv_int_ok (hti : TIok P ti) {s d : TypeId} {k : CK} (hk : convOf (ti s).d (ti d).d = some k) {A : AV} {v : Value} (hv : rel E A v) {C : Option Prop} {R : AV} (hev : evConv h k A = .v C R) :
  ∃ r, (convert s d v).run P w = .ok r w ∧ rel E R r := by
 have hs : (ti s).d ≠ .other := fun e => by rw [e] at hk; simp [convOf] at hk
 have hd : (ti d).d ≠ .other := fun e => by rw [e] at hk; cases h' : (ti s).d <;> rw [h'] at hk <;> simp [convOf] at hk
 have h1 := (hti.get rfl hs).desc
 have h2 := (hti.get rfl hd).desc
 generalize (ti s).d = ds at hk h1
 generalize (ti d).d = dd at hk h2
 unfold convOf at hk
 split at hk <;> cases hk
 all_goals
  cases A <;> simp only [evConv, reduceCtorEq] at hev
 all_goals (rename_i x; cases hev; simp only [rel, intv, u8v, u32v, u64v] at hv; subst hv; refine ⟨_, run_conv_int h1 h2 _, ?_⟩)
 all_goals (simp only [rel, intv, u8v, u32v, u64v, w64])
 ·rw [u8_wrap, u8_ofInt]
 ·rw [u32_wrap, u32_ofInt]
 ·rw [u64_wrap, u64_ofInt]
 ·have := UInt8.toNat_lt x; rw [IntWalk.i64_in _ (by omega)]
 ·have := UInt8.toNat_lt x; rw [u32_wrap, UInt32.toNat_ofNat']; congr 1
 ·have := UInt8.toNat_lt x; rw [u64_wrap, UInt64.toNat_ofNat']; congr 1
 ·have := UInt32.toNat_lt x; rw [IntWalk.i64_in _ (by omega)]
 ·have := UInt32.toNat_lt x; rw [u8_wrap, UInt8.toNat_ofNat']; congr 1
 ·have := UInt32.toNat_lt x; rw [u64_wrap, UInt64.toNat_ofNat']; congr 1
 ·have := UInt64.toNat_lt x; rw [u8_wrap, UInt8.toNat_ofNat']; congr 1
 ·have := UInt64.toNat_lt x; rw [u32_wrap, UInt32.toNat_ofNat']; congr 1

end
section
variable {P : Program} {ti : Nat → TInf} {B : Base} {E : Env} {h : List AO} {w : World} {g : Nat → AV} {a : Act} {o : Oper} {sp : Sp}

theorem Post.new_sl' (m : Mem B E h w) {c : AV} {cs : Array Value} {T : TypeId} {fr : Nat × Nat} {n cap sz : Nat} {vs post : List Value} {full : Bool} (hcs : cs.toList = vs ++ post) (hc : relC E c vs) (hl : vs.length = n * sz) (hn : n ≤ cap) (hf : full = true → cap = n) :
  Post B E h (.sl false n sz c full) (.slice (some ⟨w.heap.size, 0, none⟩) n cap) (w.alloc (.cells cs T fr)) := by
 obtain ⟨le, m'⟩ := m.allocP cs T fr
 refine ⟨_, le, m', ?_⟩
 simp only [rel, Bool.false_eq_true, if_false]
 exact ⟨⟨w.heap.size, 0, none⟩, cap, vs, rfl, hn, hf, .inr ⟨w.heap.size, 0, rfl, cs, [], post, by simp [Env.keep], by simpa using hcs, rfl⟩, hl, relC.mono le _ _ hc⟩

theorem strb_ok (m : Mem B E h w) (hti : TIok P ti) {s d e : TypeId} (hs : (ti s).d = .str) (hd : (ti d).d = .slice e) (he : (ti e).d = .u8) {l : List UInt8} {v : Value} (hv : rel E (.str l) v) :
  ∃ r w', (convert s d v).run P w = .ok r w' ∧ Post B E h (.sl false l.length 1 (.ab l) false) r w' ∧ Post B E (hsnoc h ⟨0, .ab l, false⟩) (.ms false (hlen h) 0 0 l.length 1) r w' := by
 have h1 := (hti.get hs (by simp)).desc; rw [hs] at h1
 have h2 := (hti.get hd (by simp)).desc; rw [hd] at h2
 have h3 := (hti.get he (by simp)).desc; rw [he] at h3
 simp only [rel] at hv
 obtain ⟨t, rfl, rfl⟩ := hv
 have hcap := grownCap_ge w t.size 0 e
 have hsz : t.data.toList.length = t.size := by rw [Array.length_toList]; rfl
 have hcs : (bytesRow t (grownCap w t.size 0 e)).toList = t.data.toList.map u8v ++ List.replicate (grownCap w t.size 0 e - t.size) (.int .u8 0) := by
  unfold bytesRow; rw [Array.toList_append, Array.toList_map, Array.toList_replicate]; rfl
 have hcl : (bytesRow t (grownCap w t.size 0 e)).size = grownCap w t.size 0 e := by
  rw [← Array.length_toList, hcs, List.length_append, List.length_map, List.length_replicate, hsz]; omega
 refine ⟨_, _, run_bytes_of_string (P := P) w s d e t h1 h2 h3, ?_, ?_⟩
 ·have := Post.new_sl' m.drew (T := e) (c := .ab t.data.toList) (n := t.size) (sz := 1) (full := false) (fr := ((bytesRow t (grownCap w t.size 0 e)).size, (bytesRow t (grownCap w t.size 0 e)).size + 1)) hcs (by simp only [relC]) (by simp [hsz]) hcap (fun hh => Bool.noConfusion hh)
  rw [hsz]; exact this
 ·have := Post.new_ms m.drew (T := e) (c := .ab t.data.toList) (n := t.size) (cap := grownCap w t.size 0 e) (sz := 1) (fr := ((bytesRow t (grownCap w t.size 0 e)).size, (bytesRow t (grownCap w t.size 0 e)).size + 1)) hcs (by simp only [relC]) hcap (by omega) (.inr (Nat.le_refl _))
  rw [hsz]; exact this

theorem bstr_ok (m : Mem B E h w) (hti : TIok P ti) {s d e : TypeId} (hs : (ti s).d = .slice e) (hd : (ti d).d = .str) (he : (ti e).d = .u8) {A : AV} {v : Value} (hv : rel E A v) {C : Option Prop} {R : AV} (hev : evConv h .bstr A = .v C R) (hC : holds C) :
  ∃ r, (convert s d v).run P w = .ok r w ∧ rel E R r := by
 have h1 := (hti.get hs (by simp)).desc; rw [hs] at h1
 have h2 := (hti.get hd (by simp)).desc; rw [hd] at h2
 have h3 := (hti.get he (by simp)).desc; rw [he] at h3
 have key : ∀ {n : Nat} {l : List UInt8} {d' : AV}, rdS h 1 A = some (C, n, d') → (∀ vs, relC E d' vs → vs = l.map u8v) → ∃ r, (convert s d v).run P w = .ok r w ∧ rel E (.str l) r := fun {n l d'} hr hl => by
  obtain ⟨ad, cap, vs, rfl, k1, k2, k3, k4⟩ := rdS_ok m hr hC hv
  have hvs := hl vs k2
  subst hvs
  have hn : n = l.length := by simpa using k3.symm
  subst hn
  by_cases hz : l = []
  ·subst hz
   refine ⟨.string ByteArray.empty, ?_, by simp only [rel]; exact ⟨_, rfl, rfl⟩⟩
   rw [run_convert_bytes_string (P := P) w s d e ad _ cap h1 h3 h2]
   cases ad with
   | none => simp [Conv.bytesToString]
   | some ad => simp [Conv.bytesToString, loadCells, loadCellsFrom]
  ·rcases k4 with k4 | ⟨b, o', rfl, k4⟩
   ·simp at k4; exact absurd k4 hz
   ·refine ⟨.string (strOfNums (l.map fun x => (x.toNat : Int))), ?_, ?_⟩
    ·refine run_convert_bytes_arg (P := P) w s e h1 h3 b o' l.length cap (l.map fun x => (x.toNat : Int)) (by simp) (fun i hi => ?_) d h2
     have := k4 i (u8v l[i]) (by simp [hi])
     rw [this]; simp [u8v, List.getD, hi]
    ·simp only [rel]
     refine ⟨_, rfl, ?_⟩
     rw [strOfNums_data, List.map_map]
     conv => rhs; rw [← List.map_id l]
     apply List.map_congr_left
     intro x _
     simp
 simp only [evConv] at hev
 split at hev
 ·rename_i C' n l hr
  cases hev
  exact key hr (fun vs hvs => by simpa only [relC] using hvs)
 ·rename_i C' n hr
  cases hev
  exact key hr (fun vs hvs => by simp only [relC, relL] at hvs; simpa using hvs.1)
 ·cases hev

theorem run_sliceBound {k : IntKind} {i : Int} {y : Nat} {code : BoundsCode} (h0 : 0 ≤ i) (h1 : i ≤ y) : (Instr.sliceBound (.int k i) y code).run P w = .ok i.toNat w := by
 simp only [Instr.sliceBound, asIntOf, Sem.run_bind, Sem.run_pure, Result.andThen_ok]
 rw [if_pos ⟨h0, h1⟩]; rfl

theorem run_bounds {isSl : Bool} {len cap : Nat} (hlc : len ≤ cap) {lo hi : Option Int} {C : Option Prop} {l r : Nat} (hb : bnds len lo hi = (C, l, r)) (hC : holds C) :
  (Instr.sliceBounds isSl len cap (lo.map intv) (hi.map intv) none).run P w = .ok (l, r, cap) w ∧ l ≤ r ∧ r ≤ len := by
 cases lo with
 | none =>
   cases hi with
   | none =>
     simp only [bnds, Prod.mk.injEq] at hb; obtain ⟨rfl, rfl, rfl⟩ := hb
     exact ⟨by simp [Instr.sliceBounds], by omega, by omega⟩
   | some hi =>
     simp only [bnds, Prod.mk.injEq] at hb; obtain ⟨rfl, rfl, rfl⟩ := hb
     simp only [holds] at hC
     have h1 := run_sliceBound (P := P) (w := w) (k := .i64) (code := if isSl then .sliceAcap else .sliceAlen) hC.1 (show hi ≤ (cap : Int) by omega)
     exact ⟨by simp [Instr.sliceBounds, intv, h1], by omega, by omega⟩
 | some lo =>
   cases hi with
   | none =>
     simp only [bnds, Prod.mk.injEq] at hb; obtain ⟨rfl, rfl, rfl⟩ := hb
     simp only [holds] at hC
     have h1 := run_sliceBound (P := P) (w := w) (k := .i64) (code := .sliceB) hC.1 hC.2
     exact ⟨by simp [Instr.sliceBounds, intv, h1], by omega, by omega⟩
   | some hi =>
     simp only [bnds, Prod.mk.injEq] at hb; obtain ⟨rfl, rfl, rfl⟩ := hb
     simp only [holds] at hC
     have h1 := run_sliceBound (P := P) (w := w) (k := .i64) (code := if isSl then .sliceAcap else .sliceAlen) (show 0 ≤ hi by omega) (show hi ≤ (cap : Int) by omega)
     have h2 := run_sliceBound (P := P) (w := w) (k := .i64) (y := hi.toNat) (code := .sliceB) hC.1 (by omega)
     exact ⟨by simp [Instr.sliceBounds, intv, h1, h2], by omega, by omega⟩

theorem xi_ok (hg : ∀ k, rel E (g k) (a.tmps.getD k undef)) {x : Option Operand} {n : Option Int} (hx : xi g (x.map xof) = some n) : x.map a.eval = n.map intv := by
 cases x with
 | none => simp only [xi, Option.map_none, Option.some.injEq] at hx; subst hx; rfl
 | some x =>
   simp only [xi, Option.map_some] at hx
   split at hx
   ·rename_i k hk
    cases hx
    have := rel_x hg x
    rw [hk] at this
    simp only [rel] at this
    simp [this]
   ·cases hx

theorem ltake_none : ∀ (l : List AV) (n : Nat), ltake l n = none → l.length < n
 | [], 0, h => by simp [ltake] at h
 | _ :: _, 0, h => by simp [ltake] at h
 | [], n + 1, h => by simp
 | a :: l, n + 1, h => by
   simp only [ltake] at h
   split at h
   ·cases h
   ·rename_i hm; have := ltake_none l n hm; simp; omega

theorem relL_A {l : List FV} {vs : List Value} : relL E (mapA l) vs ↔ relFL E l vs := by rw [mapA_eq, relFL_A]
theorem ctakeT_ok {c : AV} {n : Nat} {vs : List Value} (r : relC E c vs) (hl : n ≤ vs.length) : relC E (ctakeT c n) (vs.take n) := by
 cases c <;> simp only [relC] at r <;> simp only [ctakeT]
 ·split
  ·rename_i l m hm
   obtain ⟨h1, h2⟩ := ltake_eq _ _ _ hm
   simp only [relC]
   exact ⟨by rw [h1]; exact relL_take r.1 _, ones_sub r.2 fun u hu => List.mem_of_mem_take hu⟩
  ·rename_i l hm; have := ltake_none _ _ hm; have := relL_length r.1; omega
 case rw => simp only [relC]; exact ⟨relL_take (relL_A.2 r.1) _, ones_sub r.2 fun u hu => List.mem_of_mem_take hu⟩
 all_goals (simp only [relC]; rw [r, List.map_take])
theorem cdropT_ok {c : AV} {n : Nat} {vs : List Value} (r : relC E c vs) : relC E (cdropT c n) (vs.drop n) := by
 cases c <;> simp only [relC] at r <;> simp only [cdropT]
 ·simp only [relC]
  exact ⟨by rw [ldrop_eq]; exact relL_drop r.1 _, ones_sub r.2 fun u hu => List.mem_of_mem_drop hu⟩
 case rw => simp only [relC]; exact ⟨relL_drop (relL_A.2 r.1) _, ones_sub r.2 fun u hu => List.mem_of_mem_drop hu⟩
 all_goals (simp only [relC]; rw [r, List.map_drop])
theorem csubT_ok {c : AV} {o' n : Nat} {vs : List Value} (r : relC E c vs) (hl : o' + n ≤ vs.length) : relC E (csubT c o' n) ((vs.drop o').take n) := by
 cases c <;> simp only [relC] at r <;> simp only [csubT]
 ·split
  ·rename_i l m hm
   obtain ⟨h1, h2⟩ := ltake_eq _ _ _ hm
   rw [ldrop_eq] at h1
   simp only [relC]
   exact ⟨by rw [h1]; exact relL_take (relL_drop r.1 _) _, ones_sub r.2 fun u hu => List.mem_of_mem_drop (List.mem_of_mem_take hu)⟩
  ·rename_i l hm
   have h1 := ltake_none _ _ hm
   rw [ldrop_eq, List.length_drop] at h1
   have := relL_length r.1; omega
 case rw => simp only [relC]; exact ⟨relL_take (relL_drop (relL_A.2 r.1) _) _, ones_sub r.2 fun u hu => List.mem_of_mem_drop (List.mem_of_mem_take hu)⟩
 all_goals (simp only [relC]; rw [r, List.map_take, List.map_drop])
theorem celT_ok {c : AV} {sz i : Nat} {vs : List Value} (r : relC E c vs) (hl : (i + 1) * sz ≤ vs.length) (hz : sz ≠ 0) : relC E (celT c sz i) ((vs.drop (i * sz)).take sz) := by
 have hl' : i * sz + sz ≤ vs.length := by rw [Nat.succ_mul] at hl; exact hl
 have one : ∀ {l : List Value}, i < l.length → (l.drop i).take 1 = [l.getD i .nilFunc] := fun {l} h => by
  rw [List.drop_eq_getElem_cons h]; simp only [List.take_succ_cons, List.take_zero, List.getD, List.getElem?_eq_getElem h, Option.getD_some]
 cases c <;> simp only [relC] at r <;> simp only [celT]
 case agg l =>
  have hlen := relL_length r.1
  split
  ·rename_i hb
   obtain rfl := Nat.eq_of_beq_eq_true hb
   split
   ·rename_i v hv
    rw [lget_eq] at hv
    obtain ⟨u, hu, hr⟩ := relL_get r.1 hv
    have hi : i < vs.length := (List.getElem?_eq_some_iff.1 hu).1
    rw [Nat.mul_one, one hi]
    simp only [relC, relL]
    have : vs.getD i .nilFunc = u := by simp [List.getD, hu]
    rw [this]
    refine ⟨⟨u, [], rfl, hr, rfl⟩, fun x hx => ?_⟩
    simp at hx; rw [hx]; exact r.2 u (List.mem_of_getElem? hu)
   ·rename_i hv; rw [lget_eq] at hv; have := List.getElem?_eq_none_iff.1 hv; omega
  ·split
   ·rename_i m hm
    obtain ⟨h1, h2⟩ := ltake_eq _ _ _ hm
    rw [ldrop_eq] at h1
    simp only [relC]
    exact ⟨by rw [h1]; exact relL_take (relL_drop r.1 _) _, ones_sub r.2 fun u hu => List.mem_of_mem_drop (List.mem_of_mem_take hu)⟩
   ·rename_i hm
    have h1 := ltake_none _ _ hm
    rw [ldrop_eq, List.length_drop] at h1; omega
 case rw m sz' f =>
  have ho : ones ((vs.drop (i * sz)).take sz) := ones_sub r.2 fun u hu => List.mem_of_mem_drop (List.mem_of_mem_take hu)
  have hr : relL E (((mapA (flatF sz' f m)).drop (i * sz)).take sz) ((vs.drop (i * sz)).take sz) := relL_take (relL_drop (relL_A.2 r.1) _) _
  split
  ·rename_i hb
   obtain rfl := Nat.eq_of_beq_eq_true hb
   have hlen := relL_length (relL_A.2 r.1)
   rw [mapA_eq, List.length_map, flatF_len] at hlen
   have hi : i < m := by
    rcases Nat.lt_or_ge i m with h | h
    ·exact h
    ·have := Nat.mul_le_mul_right sz' h; omega
   simp only [relC]
   refine ⟨?_, ho⟩
   rw [mapA_eq, ← List.map_drop, ← List.map_take, flatF_take _ _ hi, ← mapA_eq] at hr
   exact hr
  ·simp only [relC]; exact ⟨hr, ho⟩
 all_goals
  subst r
  rename_i l
  rw [List.length_map] at hl'
  split
  ·rename_i hb
   obtain rfl := Nat.eq_of_beq_eq_true hb
   simp only [relC]
   rw [Nat.mul_one] at hl' ⊢
   rw [one (by rw [List.length_map]; omega)]
   have hi : i < l.length := by omega
   simp [List.getD, hi]
  ·simp only [relC]; rw [List.map_take, List.map_drop]

theorem mark_ok (m : Mem B E h w) (hti : TIok P ti) {d e : TypeId} (hd : (ti d).d = .slice e) (he : (ti e).d = .u8) {A : AV} {v : Value} (hv : rel E A v) {C : Option Prop} {R : AV} (hev : evConv h .mark A = .v C R) (hC : holds C) :
  ∃ r w', (convert d d v).run P w = .ok r w' ∧ Post B E h R r w' := by
 have h2 := (hti.get hd (by simp)).desc; rw [hd] at h2
 have h3 := (hti.get he (by simp)).desc; rw [he] at h3
 cases A <;> try (simp only [evConv, reduceCtorEq] at hev; done)
 rename_i nil i ee o n sz
 cases nil
 rotate_left
 ·simp only [evConv, reduceCtorEq] at hev
 simp only [evConv] at hev
 split at hev
 ·rename_i ob hob
  split at hev
  ·rename_i hep
   split at hev
   ·rename_i hfz
    split at hev
    ·rename_i hsz
     cases hev
     have hn : 0 < n := hC
     obtain rfl := Nat.eq_of_beq_eq_true hsz
     obtain rfl := Nat.eq_of_beq_eq_true hep
     rw [hget_eq] at hob
     have hv0 := hv
     simp only [rel, Bool.false_eq_true, if_false] at hv
     obtain ⟨q1, q2, ad, cap, rfl, q4, q5⟩ := hv
     obtain ⟨hE, b, s, hι, hrow⟩ := m.obj i ob hob
     obtain ⟨b', s', q6, q7, q8⟩ := q5 hE.symm
     rw [hι] at q6; cases q6
     have had : ad = ⟨b, o, none⟩ := by rcases q7 with q7 | q7; omega; exact q7
     subst had
     have hs : 0 < s := by omega
     obtain ⟨cur, T, fr, vs, post, g1, g2, g3, g4, g5, g6, g7⟩ : rowO E B.w0.heap.size B.M w ob.c b s := by
      rcases hrow with ⟨h, _⟩ | ⟨h, _⟩ | ⟨_, _, h⟩
      ·omega
      ·rw [hfz] at h; cases h
      ·exact h
     have hlt : b < w.heap.size := (Array.getElem?_eq_some_iff.1 g1).1
     have hshape : w.shape? b = some (T, cur.size) := by unfold World.shape?; rw [g1]
     have hrun : (convert d d (.slice (some ⟨b, o, none⟩) n cap)).run P w = .ok (.slice (some ⟨b, o, none⟩) n cap) (w.freeze ⟨b, cur.size, none⟩ 1) := by
      simp [convert, run_underlying h2, run_underlying h3, markStringish, hshape]
     refine ⟨_, _, hrun, E, Env.le.refl E, ?_, hv0⟩
     obtain ⟨lo, hi⟩ := fr
     have hfre : (w.freeze ⟨b, cur.size, none⟩ 1).heap[b]? = some (.cells cur T (if lo == hi then (cur.size, cur.size + 1) else (min lo cur.size, max hi (cur.size + 1)))) := by
      unfold World.freeze
      rw [if_neg (by decide)]
      simp only [Array.getElem?_modify, if_true, g1, Option.map_some]
     refine m.markO hob hfz hι hs g1 hfre ?_ ?_ (fun k hk => ?_) rfl rfl rfl
     ·unfold okFr at g3 ⊢
      split
      ·right; simp only; omega
      ·rename_i hne
       have hne : lo ≠ hi := by simpa using hne
       simp only at g3 ⊢
       rcases g3 with g3 | g3
       ·exact absurd g3 hne
       ·right; omega
     ·unfold World.freeze; rw [if_neg (by decide)]; simp
     ·unfold World.freeze; rw [if_neg (by decide)]; simp only [Array.getElem?_modify]; rw [if_neg (fun e => hk e.symm)]
    ·cases hev
   ·cases hev
  ·cases hev
 ·cases hev
theorem bnds_shape {n : Nat} {lo hi : Option Int} {C : Option Prop} {l r : Nat} (hb : bnds n lo hi = (C, l, r)) : (lo = none → l = 0) ∧ (hi = none → r = n) := by
 cases lo <;> cases hi <;> simp only [bnds, Prod.mk.injEq] at hb <;> obtain ⟨_, rfl, rfl⟩ := hb <;> simp

theorem cutT_ok {c : AV} {sz n l r : Nat} {lo hi : Option Int} {vs : List Value} (rr : relC E c vs) (hl : vs.length = n * sz) (h1 : l ≤ r) (h2 : r ≤ n) (h3 : lo = none → l = 0) (h4 : hi = none → r = n) :
  relC E (cutT c sz lo hi l r) ((vs.drop (l * sz)).take ((r - l) * sz)) := by
 have hr : r * sz ≤ n * sz := Nat.mul_le_mul_right _ h2
 have hlr : l * sz + (r - l) * sz = r * sz := by rw [← Nat.add_mul]; congr 1; omega
 cases lo with
 | none =>
   obtain rfl := h3 rfl
   cases hi with
   | none => obtain rfl := h4 rfl; simp only [cutT, Nat.zero_mul, List.drop_zero, Nat.sub_zero]; rw [List.take_of_length_le (by omega)]; exact rr
   | some => simp only [cutT, mulz_eq, Nat.zero_mul, List.drop_zero, Nat.sub_zero]; exact ctakeT_ok rr (by omega)
 | some =>
   cases hi with
   | none => obtain rfl := h4 rfl; simp only [cutT, mulz_eq]; rw [List.take_of_length_le (by simp; omega)]; exact cdropT_ok rr
   | some => simp only [cutT, mulz_eq]; exact csubT_ok rr (by omega)

end
end Go.Abs
