/-
  Own work. Conditions: none. Contracts of the functions of numbers. Contracts of the functions of bytes. Contracts of the small functions of bytes and texts. Contracts of the functions between numbers and bytes; of readers. Contr
-/
import Derived.Test.YtmgefdndbcgoiaaCode
import Derived.RangeFuncNested
import Derived.RangeFuncBound
import Derived.RangeFuncCalls
import Derived.RangeFuncLeaves
import Derived.Shelf.Abstract
import Derived.Shelf.RegionOpen
import Derived.WalkKit
import Derived.OwnWalkIn
import Derived.TacticsInMore
import Derived.LoopNIn
import Derived.LoopIn
import Derived.Test.YtmgefdndbcgoiaaProg
import Derived.Lib.AppendZerosOnto
import Derived.KernelRfl
set_option linter.unusedVariables false
set_option linter.unusedSimpArgs false
set_option linter.unnecessarySimpa false
namespace Go.Abs
open Go.Proofs
set_option maxRecDepth 100000

theorem w64_in {n : Int} (h : -9223372036854775808 ≤ n ∧ n ≤ 9223372036854775807) : w64 n = n := IntWalk.i64_in _ h

def within1 (a b : Int) : Int := if a.tmod b < 0 then a.tmod b + b else a.tmod b
theorem fn22 (a b : Int) (hb : 0 < b ∧ b < 2 ^ 62) : ACalls Try.prog 22 [.int a, .int b] [] (fun r h => r = .int (within1 a b) ∧ h = []) := by
 refine o22.run (Γ := G0 keep22 []) (own := false) (kn := 0) SpOK.nil (Nat.le_of_ble_eq_true rfl) rfl (Nat.le_refl _) ?_
 dsimp only [c22, keep22, res22, go_sem, Nat.succ, Int.reduceToNat, Nat.reduceAdd, Nat.reduceMul, Nat.reduceSub, Int.reduceLT, Int.reduceLE, Int.reduceNeg, UInt64.reduceToNat, UInt32.reduceToNat, UInt8.reduceToNat]
 refine ⟨by omega, ?_⟩
 have h1 := Int.tmod_lt_of_pos a hb.1
 refine fork_intro (fun h => ?_) (fun h => ?_)
 ·have h := of_decide_eq_true h
  have h2 : -b < a.tmod b := by
   have := Int.lt_tmod_of_pos a hb.1; omega
  refine ⟨?_, rfl⟩
  unfold within1
  rw [if_pos h, w64_in (by omega)]
 ·have h := of_decide_eq_false h
  exact ⟨by unfold within1; rw [if_neg h], rfl⟩
def e22 : SpE := ⟨true, ev2 intD intD (fun _ b => some (0 < b ∧ b < 2 ^ 62)) fun a b => .int (within1 a b)⟩
theorem ok22 : SpE.ok Try.prog 22 e22 := ev2_ok kInt kInt (fun _ _ => rfl) (fun a b h => fn22 a b h)

def Num.from (n : Int) : Num := if n < 0 then Num.zero else ⟨UInt32.ofInt n, UInt32.ofInt (n / 2 ^ 32), 0, 0, 0, 0, 0, 0⟩
theorem fn63 (n : Int) : ACalls Try.prog 63 [.int n] [] (fun r h => r = .agg (Num.from n).C ∧ h = []) := by
 refine o63.run (Γ := G0 keep63 []) (own := false) (kn := 0) SpOK.nil (Nat.le_of_ble_eq_true rfl) rfl (Nat.le_refl _) ?_
 dsimp only [c63, keep63, res63, go_sem, Nat.succ, Int.reduceToNat, Nat.reduceAdd, Nat.reduceMul, Nat.reduceSub, Int.reduceLT, Int.reduceLE, Int.reduceNeg, UInt64.reduceToNat, UInt32.reduceToNat, UInt8.reduceToNat]
 refine fork_intro (fun h => ?_) (fun h => ?_)
 ·have h := of_decide_eq_true h
  simp only [Num.from, if_pos h]
  and_intros <;> first | trivial | rfl | omega
 ·have h := of_decide_eq_false h
  simp only [Num.from, if_neg h]
  and_intros <;> first | trivial | rfl | omega
def e63 : SpE := ⟨true, ev1 intD (fun _ => none) fun n => .agg (Num.from n).C⟩
theorem ok63 : SpE.ok Try.prog 63 e63 := ev1_ok kInt (fun _ => rfl) (fun n _ => fn63 n)
theorem fn24 (n : Int) : ACalls Try.prog 24 [.int n] [] (fun r h => r = .agg (Num.from n).C ∧ h = []) := by
 refine o24.run (Γ := G0 keep24 []) (own := false) (kn := 0) SpOK.nil (Nat.le_of_ble_eq_true rfl) rfl (Nat.le_refl _) ?_
 dsimp only [c24, keep24, res24, go_sem, Nat.succ, Int.reduceToNat, Nat.reduceAdd, Nat.reduceMul, Nat.reduceSub, Int.reduceLT, Int.reduceLE, Int.reduceNeg, UInt64.reduceToNat, UInt32.reduceToNat, UInt8.reduceToNat]
 refine fork_intro (fun h => ?_) (fun h => ?_)
 ·have h := of_decide_eq_true h
  simp only [Num.from, if_neg (show ¬ n < 0 by omega)]
  and_intros <;> first | trivial | rfl | omega
 ·have h := of_decide_eq_false h
  by_cases h0 : n < 0
  ·simp only [Num.from, if_pos h0]
   and_intros <;> first | trivial | rfl | omega
  ·have : n = 0 := by omega
   subst this
   and_intros <;> first | trivial | rfl | omega
def e24 : SpE := ⟨true, ev1 intD (fun _ => none) fun n => .agg (Num.from n).C⟩
theorem ok24 : SpE.ok Try.prog 24 e24 := ev1_ok kInt (fun _ => rfl) (fun n _ => fn24 n)

def tab (k : Nat) : Nat := if k = 0 then 0 else k.log2 + 1
def len32 (x : UInt32) : Int :=
 if 65536 ≤ x.toNat then (if 256 ≤ x.toNat / 65536 then 24 + (tab (x.toNat / 65536 / 256) : Int) else 16 + (tab (x.toNat / 65536) : Int))
 else if 256 ≤ x.toNat then 8 + (tab (x.toNat / 256) : Int) else (tab x.toNat : Int)
theorem tab_le {k : Nat} (h : k < 256) : tab k ≤ 8 ∧ (k ≠ 0 → 0 < tab k) := by
 unfold tab
 split
 ·exact ⟨by omega, fun h => by omega⟩
 ·rename_i h0
  have : k.log2 < 8 := (Nat.log2_lt h0).2 (by omega)
  exact ⟨by omega, fun _ => by omega⟩
theorem len32_spec (x : UInt32) : 0 ≤ len32 x ∧ len32 x ≤ 32 ∧ (x ≠ 0 → 0 < len32 x) := by
 have hx : x.toNat < 4294967296 := x.toNat_lt
 have h0 : x ≠ 0 → x.toNat ≠ 0 := fun h e => h (UInt32.toNat_inj.1 (by rw [e]; rfl))
 unfold len32
 split
 ·split
  ·have := tab_le (k := x.toNat / 65536 / 256) (by omega); omega
  ·have := tab_le (k := x.toNat / 65536) (by omega); omega
 ·split
  ·have := tab_le (k := x.toNat / 256) (by omega); omega
  ·have := tab_le (k := x.toNat) (by omega)
   exact ⟨by omega, by omega, fun h => by have := this.2 (h0 h); omega⟩
def len8tab : List UInt8 := (List.range 256).map fun k => UInt8.ofNat (tab k)
theorem u32_shr (x : UInt32) (k : Nat) : (UInt32.ofNat (x.toNat / 2 ^ k)).toNat = x.toNat / 2 ^ k := by
 have : x.toNat / 2 ^ k ≤ x.toNat := Nat.div_le_self _ _
 have := x.toNat_lt
 rw [UInt32.toNat_ofNat_of_lt']
 show _ < 4294967296
 omega
theorem len8_at {k : Nat} (h : k < 256) : (len8tab.getD k 0).toNat = tab k := by
 have := tab_le h
 simp only [len8tab, List.getD_eq_getElem?_getD, List.getElem?_map, List.getElem?_range h, Option.map_some, Option.getD_some]
 rw [UInt8.toNat_ofNat_of_lt']
 show _ < 256
 omega
theorem len8_fin {l : List UInt8} (hl : l = len8tab) {c : Int} {m : Nat} {i : UInt8} {r : Int} (hi : i.toNat = m) (hm : m < 256) (c' : Int) (hc : c = c' ∧ 0 ≤ c' ∧ c' ≤ 32) (hr : r = c' + (tab m : Int)) :
  i.toNat < l.length ∧ AV.int (w64 (c + ((l.getD i.toNat 0).toNat : Int))) = AV.int r ∧ True := by
 subst hl
 have := tab_le hm
 rw [hi, len8_at hm, hc.1, w64_in (by omega), hr]
 exact ⟨hm, rfl, trivial⟩
theorem u8_nat {n m : Nat} (h : n = m) (hm : m < 256) : (UInt8.ofNat n).toNat = m := by rw [h]; exact UInt8.toNat_ofNat_of_lt' hm
theorem u32_nat {n m : Nat} (h : n = m) (hm : m < 4294967296) : (UInt32.ofNat n).toNat = m := by rw [h]; exact UInt32.toNat_ofNat_of_lt' hm
set_option maxHeartbeats 1000000 in
theorem fn81 (x : UInt32) : ACalls Try.prog 81 [.u32 x] [] (fun r h => r = .int (len32 x) ∧ h = []) := by
 refine o81.run (Γ := G0 keep81 []) (own := false) (kn := 0) SpOK.nil (Nat.le_of_ble_eq_true rfl) rfl (Nat.le_refl _) ?_
 dsimp only [c81, keep81, res81, go_sem, Nat.succ, Int.reduceToNat, Nat.reduceAdd, Nat.reduceMul, Nat.reduceSub, Int.reduceLT, Int.reduceLE, Int.reduceNeg, UInt64.reduceToNat, UInt32.reduceToNat, UInt8.reduceToNat]
 have hx : x.toNat < 4294967296 := x.toNat_lt
 refine fork_intro (fun h => ?_) (fun h => ?_)
 ·have h := of_decide_eq_true h
  rw [u32_shr]
  refine fork_intro (fun h1 => ?_) (fun h1 => ?_)
  ·have h1 := of_decide_eq_true h1
   simp only [show min 16 32 = 16 from rfl, show min 8 32 = 8 from rfl] at h1 ⊢
   exact len8_fin (by kernel_rfl) (u8_nat (m := x.toNat / 65536 / 256) (u32_nat rfl (by omega)) (by omega)) (by omega) 24 ⟨by decide, by omega⟩ (by unfold len32; rw [if_pos h, if_pos (by omega)])
  ·have h1 := of_decide_eq_false h1
   simp only [show min 16 32 = 16 from rfl, show min 8 32 = 8 from rfl] at h1 ⊢
   exact len8_fin (by kernel_rfl) (u8_nat (m := x.toNat / 65536) rfl (by omega)) (by omega) 16 ⟨by decide, by omega⟩ (by unfold len32; rw [if_pos h, if_neg (by omega)])
 ·have h := of_decide_eq_false h
  refine fork_intro (fun h1 => ?_) (fun h1 => ?_)
  ·have h1 := of_decide_eq_true h1
   simp only [show min 16 32 = 16 from rfl, show min 8 32 = 8 from rfl] at h1 ⊢
   exact len8_fin (by kernel_rfl) (u8_nat (m := x.toNat / 256) (u32_nat rfl (by omega)) (by omega)) (by omega) 8 ⟨by decide, by omega⟩ (by unfold len32; rw [if_neg h, if_pos (by omega)])
  ·have h1 := of_decide_eq_false h1
   exact And.imp id (And.imp id fun _ => rfl) (len8_fin (c := 0) (i := UInt8.ofNat x.toNat) (r := len32 x) (by kernel_rfl) (u8_nat (m := x.toNat) rfl (by omega)) (by omega) 0 ⟨rfl, by omega⟩ (by unfold len32; rw [if_neg h, if_neg (by omega)]; omega))
def e81 : SpE := ⟨true, ev1 u32D (fun _ => none) fun n => .int (len32 n)⟩
theorem ok81 : SpE.ok Try.prog 81 e81 := ev1_ok kU32 (fun _ => rfl) (fun n _ => fn81 n)

def bw (l : List UInt32) : Nat → Int
 | 0 => 0
 | k + 1 => if l.getD k 0 ≠ 0 then 32 * (k : Int) + len32 (l.getD k 0) else bw l k
def Num.bits (x : Num) : Int := bw x.L 8
def L61 (x : Num) : LI where
 X := Nat
 x0 := 8
 pre k := k ≤ 8 ∧ bw x.L 8 = bw x.L k
 inv k := ([(1, .ptr 0 0 0), (3, .int ((k : Int) - 1))], [⟨0, .au x.L, false⟩])
 mu k := k
 ren := false
theorem fn61 (x : Num) : ACalls Try.prog 61 [.agg x.C] [] (fun r h => r = .int x.bits ∧ h = []) := by
 refine o61.run (Γ := GL keep61 [(81, e81)] fun _ => L61 x) (own := false) (kn := 0) (.cons ok81 o81.enter .nil) (Nat.le_of_ble_eq_true rfl) rfl (Nat.le_refl _) ?_
 dsimp only [c61, keep61, res61, L61, e81, go_sem, Nat.succ, Int.reduceToNat, Nat.reduceAdd, Nat.reduceMul, Nat.reduceSub, Int.reduceLT, Int.reduceLE, Int.reduceNeg, UInt64.reduceToNat, UInt32.reduceToNat, UInt8.reduceToNat]
 refine ⟨⟨?_, ?_⟩, fun k hk => ?_⟩
 ·and_intros <;> first | rfl | trivial | exact .inr ⟨rfl, rfl⟩
 ·and_intros <;> first | rfl | trivial | exact Nat.le_refl _
 ·obtain ⟨hk, hb⟩ := hk
  refine fork_intro (fun h => ?_) (fun h => ?_)
  ·have h := of_decide_eq_true h
   have hL : x.L.length = 8 := rfl
   obtain ⟨j, rfl⟩ : ∃ j, k = j + 1 := ⟨k - 1, by omega⟩
   have e1 : ((j + 1 : Nat) : Int) - 1 = (j : Int) := by omega
   simp (disch := omega) only [w64_in, hL, e1, Int.toNat_natCast, Nat.zero_add]
   refine ⟨by omega, by omega, fork_intro (fun h1 => ?_) (fun h1 => ?_)⟩
   ·have h1 : x.L.getD j 0 ≠ 0 := by simpa using h1
    have hl := len32_spec (x.L.getD j 0)
    and_intros <;> try (first | trivial | rfl | omega)
    rw [w64_in (by omega), Num.bits, hb]; unfold bw; rw [if_pos h1]
   ·have h1 : ¬ x.L.getD j 0 ≠ 0 := by simpa using h1
    refine ⟨j, ⟨by omega, ?_⟩, by omega, ?_⟩
    ·rw [hb]; simp only [bw, if_neg h1]
    ·and_intros <;> first | trivial | rfl | exact .inl trivial | exact .inl rfl
  ·have h := of_decide_eq_false h
   have : k = 0 := by omega
   subst this
   and_intros <;> try (first | trivial | rfl | omega)
   rw [Num.bits, hb]; rfl
def e61 : SpE := ⟨true, ev1 numD (fun _ => none) fun x => .int x.bits⟩
theorem ok61 : SpE.ok Try.prog 61 e61 := ev1_ok kNum (fun _ => rfl) (fun n _ => fn61 n)

def bitR (l : List UInt32) (i : Nat) : UInt32 := UInt32.ofNat ((l.getD (i / 32) 0).toNat / 2 ^ (i % 32)) &&& 1
theorem u64_small {n : Nat} (h : n < 2 ^ 63) : (UInt64.ofInt (n : Int)).toNat = n := by
 rw [UInt64.ofInt, UInt64.toNat_ofNat_of_lt'] <;> simp <;> omega
theorem tell_au (x : Num) : Tell (.agg x.C) (.au x.L) := fun E v r => by
 simp only [rel] at r ⊢
 obtain ⟨vs, h1, h2, h3⟩ := r
 exact ⟨vs, h1, (relL_map .u32 u32v (fun x u => by simp only [rel]) x.L _).1 h2⟩
theorem fn72 (x : Num) (i : Nat) (hi : i < 256) : ACalls Try.prog 72 [.agg x.C, .int i] [] (fun r h => r = .u32 (bitR x.L i) ∧ h = []) := by
 refine ACalls.said (args' := [.au x.L, .int i]) ⟨tell_au x, Tell.refl _, trivial⟩ ?_
 refine o72.run (Γ := G0 keep72 []) (own := false) (kn := 0) .nil (Nat.le_of_ble_eq_true rfl) rfl (Nat.le_refl _) ?_
 dsimp only [c72, keep72, res72, go_sem, Nat.succ, Int.reduceToNat, Nat.reduceAdd, Nat.reduceMul, Nat.reduceSub, Int.reduceLT, Int.reduceLE, Int.reduceNeg, UInt64.reduceToNat, UInt32.reduceToNat, UInt8.reduceToNat]
 have e1 : ((i : Int)).tdiv 32 = (i / 32 : Nat) := by rw [Int.tdiv_eq_ediv_of_nonneg (by omega)]; rfl
 have e2 : ((i : Int)).tmod 32 = (i % 32 : Nat) := by rw [Int.tmod_eq_emod_of_nonneg (by omega)]; rfl
 have hL : x.L.length = 8 := rfl
 rw [e1, e2, w64_in (by omega), u64_small (by omega), hL, Int.toNat_natCast, Nat.zero_add, show min (i % 32) 32 = i % 32 by omega]
 and_intros <;> first | trivial | omega | rfl
def e72 : SpE := ⟨true, ev2 numD intD (fun _ i => some (0 ≤ i ∧ i < 256)) fun x i => .u32 (bitR x.L i.toNat)⟩
theorem ok72 : SpE.ok Try.prog 72 e72 := ev2_ok kNum kInt (fun _ _ => rfl) (fun x i h => by
 simp only [holds] at h
 obtain ⟨k, rfl⟩ : ∃ k : Nat, i = k := ⟨i.toNat, by omega⟩
 exact fn72 x k (by omega))
def brR (l : List UInt32) : Nat → Int
 | 0 => 0
 | k + 1 => if 0 < (bitR l k).toNat then (k : Int) + 1 else brR l k
def Num.bitsR (x : Num) : Int := brR x.L 256
def L41 (x : Num) : LI where
 X := Nat
 x0 := 256
 pre k := k ≤ 256 ∧ brR x.L 256 = brR x.L k
 inv k := ([(1, .ptr 0 0 0), (3, .int ((k : Int) - 1))], [⟨0, .agg x.C, false⟩])
 mu k := k
 ren := false
theorem fn41 (x : Num) : ACalls Try.prog 41 [.agg x.C] [] (fun r h => r = .int x.bitsR ∧ h = []) := by
 refine o41.run (Γ := GL keep41 [(72, e72)] fun _ => L41 x) (own := false) (kn := 0) (.cons ok72 o72.enter .nil) (Nat.le_of_ble_eq_true rfl) rfl (Nat.le_refl _) ?_
 dsimp only [c41, keep41, res41, L41, e72, go_sem, Nat.succ, Int.reduceToNat, Nat.reduceAdd, Nat.reduceMul, Nat.reduceSub, Int.reduceLT, Int.reduceLE, Int.reduceNeg, UInt64.reduceToNat, UInt32.reduceToNat, UInt8.reduceToNat]
 refine ⟨⟨?_, ?_⟩, fun k hk => ?_⟩
 ·and_intros <;> first | rfl | trivial | exact .inl rfl
 ·and_intros <;> first | rfl | trivial | exact Nat.le_refl _
 ·obtain ⟨hk, hb⟩ := hk
  refine fork_intro (fun h => ?_) (fun h => ?_)
  ·have h := of_decide_eq_true h
   obtain ⟨j, rfl⟩ : ∃ j, k = j + 1 := ⟨k - 1, by omega⟩
   have e1 : ((j + 1 : Nat) : Int) - 1 = (j : Int) := by omega
   simp (disch := omega) only [w64_in, e1, Int.toNat_natCast]
   refine ⟨by omega, fork_intro (fun h1 => ?_) (fun h1 => ?_)⟩
   ·have h1 := of_decide_eq_true h1
    and_intros <;> try (first | trivial | rfl | omega)
    rw [Num.bitsR, hb]; simp only [brR]; rw [if_pos h1]
   ·have h1 := of_decide_eq_false h1
    refine ⟨j, ⟨by omega, ?_⟩, by omega, ?_⟩
    ·rw [hb]; simp only [brR, if_neg h1]
    ·and_intros <;> first | trivial | rfl | exact .inl trivial | exact .inl rfl
  ·have h := of_decide_eq_false h
   have : k = 0 := by omega
   subst this
   and_intros <;> try (first | trivial | rfl | omega)
   rw [Num.bitsR, hb]; rfl
def e41 : SpE := ⟨true, ev1 numD (fun _ => none) fun x => .int x.bitsR⟩
theorem ok41 : SpE.ok Try.prog 41 e41 := ev1_ok kNum (fun _ => rfl) (fun n _ => fn41 n)
open Go.Proofs
set_option maxRecDepth 100000

theorem wr64 {n : Int} (h : -9223372036854775808 ≤ n ∧ n ≤ 9223372036854775807) : IntKind.i64.wrap n = n := IntWalk.i64_in _ h

def be4 (w : UInt32) : List UInt8 := [UInt8.ofNat (w.toNat / 2 ^ 24), UInt8.ofNat (w.toNat / 2 ^ 16), UInt8.ofNat (w.toNat / 2 ^ 8), UInt8.ofNat w.toNat]
def bytesTo (l : List UInt32) : Nat → List UInt8
 | 0 => []
 | i + 1 => bytesTo l i ++ be4 (l.getD (7 - i) 0)
def Num.bytes (x : Num) : List UInt8 := be4 x.a7 ++ (be4 x.a6 ++ (be4 x.a5 ++ (be4 x.a4 ++ (be4 x.a3 ++ (be4 x.a2 ++ (be4 x.a1 ++ be4 x.a0))))))
theorem bytesTo_all (x : Num) : bytesTo x.L 8 = x.bytes := rfl
theorem bytesTo_len (l : List UInt32) : ∀ i, (bytesTo l i).length = 4 * i
 | 0 => rfl
 | i + 1 => by simp only [bytesTo, List.length_append, bytesTo_len l i, be4, List.length_cons, List.length_nil]; omega
def L82 (x : Num) : LI where
 X := Nat
 x0 := 0
 pre i := i ≤ 8
 inv i := ([(1, .ptr 0 0 0), (3, .ms false 1 0 0 (4 * i) 1), (4, .int (7 - (i : Int)))], [⟨0, .au x.L, false⟩, ⟨0, .ab (bytesTo x.L i), false⟩])
 mu i := 8 - i
 ren := true
set_option maxHeartbeats 1000000 in
theorem fn82 (x : Num) : ACalls Try.prog 82 [.agg x.C] [] (fun r h => r = .sl false 32 1 (.ab x.bytes) false ∧ h = []) := by
 refine ACalls.said (args' := [.au x.L]) ⟨tell_au x, trivial⟩ ?_
 refine o82.run (Γ := GL keep82 [] fun _ => L82 x) (own := false) (kn := 0) .nil (Nat.le_of_ble_eq_true rfl) rfl (Nat.le_refl _) ?_
 dsimp only [c82, keep82, res82, L82, go_sem, Nat.succ, Int.reduceToNat, Nat.reduceAdd, Nat.reduceMul, Nat.reduceSub, Int.reduceLT, Int.reduceLE, Int.reduceNeg, UInt64.reduceToNat, UInt32.reduceToNat, UInt8.reduceToNat]
 refine ⟨by omega, ⟨?_, by omega⟩, fun i hi => ?_⟩
 ·refine ⟨[some 0, some 1], by first | rfl | trivial, ?_, by first | rfl | trivial, ?_⟩ <;> exact rn
 ·have hb := bytesTo_len x.L i
  have hL : x.L.length = 8 := rfl
  have e1 : (7 - (i : Int)).toNat = 7 - i := by omega
  have e2 : (bytesTo x.L i).take (4 * i * (4 * i)) = bytesTo x.L i := by
   have := take_all (l := bytesTo x.L i) (n := 4 * i) (by rcases i with _ | i
                                                          ·exact .inr rfl
                                                          ·exact .inl (by omega))
   rwa [hb] at this
  refine fork_intro (fun h => ?_) (fun h => ?_)
  ·have h := of_decide_eq_true h
   simp only [e1, hL, hb, e2, Nat.zero_add, u32_shr, show min 24 32 = 24 from rfl, show min 16 32 = 16 from rfl, show min 8 32 = 8 from rfl]
   and_intros <;> try (first | trivial | omega)
   refine ⟨i + 1, by omega, by omega, [some 0, some 1], by first | rfl | trivial, ?_, by first | rfl | trivial, ?_⟩
   ·rw [w64_in (n := 7 - (i : Int) - 1) (by omega), show 7 - (i : Int) - 1 = 7 - ((i + 1 : Nat) : Int) by omega]
    exact rn
   ·exact rn
  ·have h := of_decide_eq_false h
   obtain rfl : i = 8 := by omega
   and_intros <;> first | trivial | rfl | omega | skip
def e82 : SpE := ⟨true, ev1 numD (fun _ => none) fun x => .sl false 32 1 (.ab x.bytes) false⟩
theorem ok82 : SpE.ok Try.prog 82 e82 := ev1_ok kNum (fun _ => rfl) (fun n _ => fn82 n)
def L83 (x : Num) : LI where
 X := Nat
 x0 := 0
 pre i := 1 ≤ i ∧ i ≤ 8
 inv i := ([(1, .ptr 0 0 0), (3, .ms false 1 0 0 (4 * i) 1), (4, .int (7 - (i : Int)))], [⟨0, .au x.L, false⟩, ⟨0, .ab (bytesTo x.L i), false⟩])
 mu i := 8 - i
 ren := true
 peel := true
set_option maxHeartbeats 1000000 in
theorem fn83 (x : Num) : ACalls Try.prog 83 [.agg x.C] [] (fun r h => r = .sl false 32 1 (.ab x.bytes) false ∧ h = []) := by
 refine ACalls.said (args' := [.au x.L]) ⟨tell_au x, trivial⟩ ?_
 refine o83.run (Γ := GL keep83 [] fun _ => L83 x) (own := false) (kn := 0) .nil (Nat.le_of_ble_eq_true rfl) rfl (Nat.le_refl _) ?_
 dsimp only [c83, keep83, res83, L83, go_sem, Nat.succ, Int.reduceToNat, Nat.reduceAdd, Nat.reduceMul, Nat.reduceSub, Int.reduceLT, Int.reduceLE, Int.reduceNeg, UInt64.reduceToNat, UInt32.reduceToNat, UInt8.reduceToNat]
 have hL : x.L.length = 8 := rfl
 refine ⟨fork_intro (fun h => ?_) (fun h => by cases h), fun i hi => ?_⟩
 ·simp only [hL, u32_shr, show min 24 32 = 24 from rfl, show min 16 32 = 16 from rfl, show min 8 32 = 8 from rfl]
  and_intros <;> try (first | trivial | omega)
  refine ⟨1, by omega, [some 0, some 1], by first | rfl | trivial, ?_, by first | rfl | trivial, ?_⟩ <;> exact rn
 ·have hb := bytesTo_len x.L i
  have e1 : (7 - (i : Int)).toNat = 7 - i := by omega
  have e2 : (bytesTo x.L i).take (4 * i * (4 * i)) = bytesTo x.L i := by
   have := take_all (l := bytesTo x.L i) (n := 4 * i) (.inl (by omega))
   rwa [hb] at this
  refine fork_intro (fun h => ?_) (fun h => ?_)
  ·have h := of_decide_eq_true h
   simp only [e1, hL, hb, e2, Nat.zero_add, u32_shr, show min 24 32 = 24 from rfl, show min 16 32 = 16 from rfl, show min 8 32 = 8 from rfl]
   and_intros <;> try (first | trivial | omega)
   refine ⟨i + 1, by omega, by omega, [some 0, some 1], by first | rfl | trivial, ?_, by first | rfl | trivial, ?_⟩
   ·rw [w64_in (n := 7 - (i : Int) - 1) (by omega), show 7 - (i : Int) - 1 = 7 - ((i + 1 : Nat) : Int) by omega]
    exact rn
   ·exact rn
  ·have h := of_decide_eq_false h
   obtain rfl : i = 8 := by omega
   and_intros <;> first | trivial | rfl | omega | skip
def e83 : SpE := ⟨true, ev1 numD (fun _ => none) fun x => .sl false 32 1 (.ab x.bytes) false⟩
theorem ok83 : SpE.ok Try.prog 83 e83 := ev1_ok kNum (fun _ => rfl) (fun n _ => fn83 n)

def readStep (l : List UInt8) (n : List UInt32) (i : Nat) : List UInt32 :=
 n.set ((l.length - 1 - i) / 4) (n.getD ((l.length - 1 - i) / 4) 0 ||| UInt32.ofNat ((UInt32.ofNat (l.getD i 0).toNat).toNat * 2 ^ (8 * ((l.length - 1 - i) % 4))))
def readTo (l : List UInt8) : Nat → List UInt32
 | 0 => List.replicate 8 0
 | i + 1 => readStep l (readTo l i) i
theorem readTo_len (l : List UInt8) : ∀ i, (readTo l i).length = 8
 | 0 => rfl
 | i + 1 => by simp only [readTo, readStep, List.length_set]; exact readTo_len l i
def Num.read (l : List UInt8) : Num := if l.length ≤ 32 then Num.of (readTo l l.length) else Num.zero
def L84 (b : By) : LI where
 X := Nat
 x0 := 0
 pre i := i ≤ b.l.length
 inv i := ([(0, b.A), (2, .ptr 0 0 0), (3, .bool false), (4, .ptr 1 0 0), (12, b.A), (13, .int b.l.length), (14, .int i)], [⟨0, .agg Num.zero.C, false⟩, ⟨0, .au (readTo b.l i), false⟩])
 mu i := b.l.length - i
 ren := false
set_option maxHeartbeats 3000000 in
theorem fn84 (b : By) : ACalls Try.prog 84 [b.A] [] (fun r h => r = .tup [.agg (Num.read b.l).C, .bool (decide (b.l.length ≤ 32))] ∧ h = []) := by
 refine o84.run (Γ := GL keep84 [] fun _ => L84 b) (own := false) (kn := 0) SpOK.nil (Nat.le_of_ble_eq_true rfl) rfl (Nat.le_refl _) ?_
 dsimp only [c84, keep84, res84, L84, Num.zero, go_sem, Nat.succ, Int.reduceToNat, Nat.reduceAdd, Nat.reduceMul, Nat.reduceSub, Int.reduceLT, Int.reduceLE, Int.reduceNeg, UInt64.reduceToNat, UInt32.reduceToNat, UInt8.reduceToNat]
 refine fork_intro (fun h => ?_) (fun h => ?_)
 ·have h := of_decide_eq_true h
  have h' : ¬ b.l.length ≤ 32 := by omega
  simp only [Num.read, if_neg h']
  and_intros <;> first | trivial | rfl | omega | skip
  rw [decide_eq_false h']; rfl
 ·have h := of_decide_eq_false h
  have hl : b.l.length ≤ 32 := by omega
  refine ⟨⟨?_, by omega⟩, fun i hi => ?_⟩
  ·and_intros <;> first | trivial | rfl | exact .inl rfl | exact .inr ⟨rfl, rfl⟩ | skip
  ·have hlen := readTo_len b.l i
   refine fork_intro (fun h => ?_) (fun h => ?_)
   ·have h := of_decide_eq_true h
    obtain ⟨k, hk⟩ : ∃ k, k = b.l.length - 1 - i := ⟨_, rfl⟩
    have e1 : w64 (w64 ((b.l.length : Int) - 1) - i) = (k : Int) := by rw [w64_in (n := (b.l.length : Int) - 1) (by omega), w64_in (by omega)]; omega
    have e2 : ((k : Int)).tdiv 4 = ((k / 4 : Nat) : Int) := by rw [Int.tdiv_eq_ediv_of_nonneg (by omega)]; rfl
    have e3 : ((k : Int)).tmod 4 = ((k % 4 : Nat) : Int) := by rw [Int.tmod_eq_emod_of_nonneg (by omega)]; rfl
    have e4 : w64 ((k / 4 : Nat) : Int) = ((k / 4 : Nat) : Int) := w64_in (by omega)
    have e5 : w64 (8 * ((k % 4 : Nat) : Int)) = ((8 * (k % 4) : Nat) : Int) := by rw [w64_in (by omega)]; omega
    simp only [e1, e2, e3, e4, e5, hlen, Int.toNat_natCast, Nat.zero_add, show min (8 * (k % 4)) 32 = 8 * (k % 4) by omega]
    and_intros <;> try (first | trivial | omega | exact Nat.zero_lt_one)
    refine ⟨i + 1, by omega, by omega, ?_⟩
    rw [w64_in (by omega)]
    and_intros <;> first | trivial | rfl | exact .inl rfl | skip
    refine .inl (congrArg AV.au ?_)
    simp only [readTo, readStep, ← hk]; rfl
   ·have h := of_decide_eq_false h
    obtain rfl : i = b.l.length := by omega
    simp only [Num.read, if_pos hl, Num.of, decide_eq_true hl]
    and_intros <;> first | trivial | rfl | omega | skip
def e84 : SpE := ⟨true, ev1 byD (fun _ => none) fun b => .tup [.agg (Num.read b.l).C, .bool (decide (b.l.length ≤ 32))]⟩
theorem ok84 : SpE.ok Try.prog 84 e84 := ev1_ok kBy (fun _ => rfl) (fun b _ => fn84 b)
def L70 (b : By) : LI where
 X := Nat
 x0 := 0
 pre i := i ≤ b.l.length
 inv i := ([(0, b.A), (2, .ptr 0 0 0), (3, .bool false), (4, .ptr 1 0 0), (5, .int i)], [⟨0, .agg Num.zero.C, false⟩, ⟨0, .au (readTo b.l i), false⟩])
 mu i := b.l.length - i
 ren := false
set_option maxHeartbeats 3000000 in
theorem fn70 (b : By) : ACalls Try.prog 70 [b.A] [] (fun r h => r = .tup [.agg (Num.read b.l).C, .bool (decide (b.l.length ≤ 32))] ∧ h = []) := by
 refine o70.run (Γ := GL keep70 [] fun _ => L70 b) (own := false) (kn := 0) SpOK.nil (Nat.le_of_ble_eq_true rfl) rfl (Nat.le_refl _) ?_
 dsimp only [c70, keep70, res70, L70, Num.zero, go_sem, Nat.succ, Int.reduceToNat, Nat.reduceAdd, Nat.reduceMul, Nat.reduceSub, Int.reduceLT, Int.reduceLE, Int.reduceNeg, UInt64.reduceToNat, UInt32.reduceToNat, UInt8.reduceToNat]
 refine fork_intro (fun h => ?_) (fun h => ?_)
 ·have h := of_decide_eq_true h
  have h' : ¬ b.l.length ≤ 32 := by omega
  simp only [Num.read, if_neg h']
  and_intros <;> first | trivial | rfl | omega | skip
  rw [decide_eq_false h']; rfl
 ·have h := of_decide_eq_false h
  have hl : b.l.length ≤ 32 := by omega
  refine ⟨⟨?_, by omega⟩, fun i hi => ?_⟩
  ·and_intros <;> first | trivial | rfl | exact .inl rfl | exact .inr ⟨rfl, rfl⟩ | skip
  ·have hlen := readTo_len b.l i
   refine fork_intro (fun h => ?_) (fun h => ?_)
   ·have h := of_decide_eq_true h
    obtain ⟨k, hk⟩ : ∃ k, k = b.l.length - 1 - i := ⟨_, rfl⟩
    have e1 : w64 (w64 ((b.l.length : Int) - 1) - i) = (k : Int) := by rw [w64_in (n := (b.l.length : Int) - 1) (by omega), w64_in (by omega)]; omega
    have e2 : ((k : Int)).tdiv 4 = ((k / 4 : Nat) : Int) := by rw [Int.tdiv_eq_ediv_of_nonneg (by omega)]; rfl
    have e3 : ((k : Int)).tmod 4 = ((k % 4 : Nat) : Int) := by rw [Int.tmod_eq_emod_of_nonneg (by omega)]; rfl
    have e4 : w64 ((k / 4 : Nat) : Int) = ((k / 4 : Nat) : Int) := w64_in (by omega)
    have e5 : w64 (8 * ((k % 4 : Nat) : Int)) = ((8 * (k % 4) : Nat) : Int) := by rw [w64_in (by omega)]; omega
    simp only [e1, e2, e3, e4, e5, hlen, Int.toNat_natCast, Nat.zero_add, u64_small (show 8 * (k % 4) < 2 ^ 63 by omega), show min (8 * (k % 4)) 32 = 8 * (k % 4) by omega]
    and_intros <;> try (first | trivial | omega | exact Nat.zero_lt_one)
    refine ⟨i + 1, by omega, by omega, ?_⟩
    rw [w64_in (by omega)]
    and_intros <;> first | trivial | rfl | exact .inl rfl | skip
    refine .inl (congrArg AV.au ?_)
    simp only [readTo, readStep, ← hk]; rfl
   ·have h := of_decide_eq_false h
    obtain rfl : i = b.l.length := by omega
    simp only [Num.read, if_pos hl, Num.of, decide_eq_true hl]
    and_intros <;> first | trivial | rfl | omega | skip
def e70 : SpE := ⟨true, ev1 byD (fun _ => none) fun b => .tup [.agg (Num.read b.l).C, .bool (decide (b.l.length ≤ 32))]⟩
theorem ok70 : SpE.ok Try.prog 70 e70 := ev1_ok kBy (fun _ => rfl) (fun b _ => fn70 b)
open Go.Proofs
set_option maxRecDepth 100000

theorem tell_nil : Tell (.sl true 0 0 (.agg []) true) (By.A ⟨true, []⟩) := byD_tell _ _ rfl
theorem by_have {P : Program} {f : FuncId} {b : By} {args : List AV} {h : List AO} {K : AV → List AO → Prop} (hc : (b.nil = true → b.l = []) → ACalls P f (b.A :: args) h K) : ACalls P f (b.A :: args) h K :=
 ACalls.have (b.nil = true → b.l = []) (fun E vs h => by
  simp only [relL] at h
  obtain ⟨u, us, _, h1, _⟩ := h
  exact By.A_spec h1) hc

theorem fn64 (b : By) (hb : b.l.length ≤ 1099511627776) : ACalls Try.prog 64 [b.A] [] (fun r h => r = b.A ∧ h = []) := by
 refine by_have fun hn => ?_
 refine ACalls.tell (K := fun r h => (b.nil = true ∧ r = .sl true 0 0 (.agg []) true ∧ h = []) ∨ (b.nil = false ∧ r = b.A ∧ h = [])) ?_ ?_
 ·refine o64.run (Γ := G0 keep64 []) (own := false) (kn := 0) .nil (Nat.le_of_ble_eq_true rfl) rfl (Nat.le_refl _) ?_
  dsimp only [c64, keep64, res64, go_sem, Nat.succ, Int.reduceToNat, Nat.reduceAdd, Nat.reduceMul, Nat.reduceSub, Int.reduceLT, Int.reduceLE, Int.reduceNeg, UInt64.reduceToNat, UInt32.reduceToNat, UInt8.reduceToNat]
  refine fork_intro (fun h => .inl ⟨h, rfl, rfl⟩) (fun h => ?_)
  simp only [h, List.drop_zero, List.take_length]
  and_intros <;> try (first | trivial | omega)
  exact .inr ⟨trivial, trivial, trivial⟩
 ·rintro r h1 (⟨h2, rfl, rfl⟩ | ⟨h2, rfl, rfl⟩)
  ·refine ⟨_, _, ⟨rfl, rfl⟩, ?_, TellH.refl _⟩
   obtain ⟨nl, l⟩ := b
   simp only at h2 hn
   subst h2
   rw [hn rfl]; exact tell_nil
  ·exact ⟨_, _, ⟨rfl, rfl⟩, Tell.refl _, TellH.refl _⟩
def e64 : SpE := ⟨true, ev1 byD (fun b => some (b.l.length ≤ 1099511627776)) fun b => b.A⟩
theorem ok64 : SpE.ok Try.prog 64 e64 := ev1_ok kBy (fun _ => rfl) (fun b h => fn64 b h)
theorem fn55 (a b : By) : ACalls Try.prog 55 [a.A, b.A] [] (fun r h => r = .bool (a.l == b.l) ∧ h = []) := by
 refine o55.run (Γ := G0 keep55 []) (own := false) (kn := 0) .nil (Nat.le_of_ble_eq_true rfl) rfl (Nat.le_refl _) ?_
 dsimp only [c55, keep55, res55, go_sem, Nat.succ, Int.reduceToNat, Nat.reduceAdd, Nat.reduceMul, Nat.reduceSub, Int.reduceLT, Int.reduceLE, Int.reduceNeg, UInt64.reduceToNat, UInt32.reduceToNat, UInt8.reduceToNat]
 exact ⟨rfl, rfl⟩
def e55 : SpE := ⟨true, ev2 byD byD (fun _ _ => none) fun a b => .bool (a.l == b.l)⟩
theorem ok55 : SpE.ok Try.prog 55 e55 := ev2_ok kBy kBy (fun _ _ => rfl) (fun a b _ => fn55 a b)

structure Ints where
 nil : Bool
 l : List Int
def Ints.A (b : Ints) : AV := .sl b.nil b.l.length 1 (.ai b.l) false
def isD : AV → Option Ints
 | .sl nl n sz (.ai l) fl => match Nat.beq sz 1 with | true => some ⟨nl, l⟩ | false => none
 | .sl true n sz (.agg []) fl => some ⟨true, []⟩
 | _ => none
theorem isD_tell (a : AV) (b : Ints) (h : isD a = some b) : Tell a b.A := by
 unfold isD at h
 split at h
 ·rename_i nl n sz l fl
  split at h
  ·rename_i hz
   cases h
   obtain rfl := Nat.eq_of_beq_eq_true hz
   intro E v r
   obtain ⟨e, _⟩ := sl_ai r
   subst e
   exact sl_full r
  ·cases h
 ·cases h
  exact fun E v r => sl_nil (by simp [relC]) r
 ·cases h
def kInts : Kd Ints := ⟨isD, Ints.A, isD_tell, fun _ => rfl⟩
def idxFrom (l : List Int) (v : Int) : Nat → Int
 | 0 => -1
 | k + 1 => if v = l.getD (l.length - (k + 1)) 0 then ((l.length - (k + 1) : Nat) : Int) else idxFrom l v k
def L79 (b : Ints) (v : Int) : LI where
 X := Nat
 x0 := b.l.length
 pre k := k ≤ b.l.length ∧ idxFrom b.l v b.l.length = idxFrom b.l v k
 inv k := ([(0, b.A), (1, .int v), (7, .int b.l.length), (8, .int ((b.l.length - k : Nat) : Int))], [])
 mu k := k
 ren := false
theorem fn79 (b : Ints) (v : Int) (hb : b.l.length ≤ 1099511627776) : ACalls Try.prog 79 [b.A, .int v] [] (fun r h => r = .int (idxFrom b.l v b.l.length) ∧ h = []) := by
 refine o79.run (Γ := GL keep79 [] fun _ => L79 b v) (own := false) (kn := 0) .nil (Nat.le_of_ble_eq_true rfl) rfl (Nat.le_refl _) ?_
 dsimp only [c79, keep79, res79, L79, Ints.A, go_sem, Nat.succ, Int.reduceToNat, Nat.reduceAdd, Nat.reduceMul, Nat.reduceSub, Int.reduceLT, Int.reduceLE, Int.reduceNeg, UInt64.reduceToNat, UInt32.reduceToNat, UInt8.reduceToNat]
 refine ⟨⟨?_, Nat.le_refl _, rfl⟩, fun k hk => ?_⟩
 ·simp only [Nat.sub_self]
  and_intros <;> first | rfl | trivial
 ·obtain ⟨hk, hi⟩ := hk
  refine fork_intro (fun h => ?_) (fun h => ?_)
  ·have h := of_decide_eq_true h
   obtain ⟨j, rfl⟩ : ∃ j, k = j + 1 := ⟨k - 1, by omega⟩
   simp only [Int.toNat_natCast]
   refine ⟨by omega, Nat.zero_lt_one, ?_⟩
   rw [w64_in (by omega)]
   refine fork_intro (fun h1 => ?_) (fun h1 => ?_)
   ·have h1 : v = b.l.getD (b.l.length - (j + 1)) 0 := eq_of_beq h1
    refine ⟨?_, by first | rfl | trivial⟩
    rw [hi, idxFrom]
    rw [if_pos h1]
   ·have h1 : ¬ v = b.l.getD (b.l.length - (j + 1)) 0 := fun e => by
     rw [show [b.l.getD (b.l.length - (j + 1)) 0].getD 0 0 = b.l.getD (b.l.length - (j + 1)) 0 from rfl, ← e] at h1; simp at h1
    refine ⟨j, ⟨by omega, ?_⟩, by omega, ?_⟩
    ·rw [hi, idxFrom, if_neg h1]
    ·and_intros <;> first | rfl | trivial | skip
     exact congrArg AV.int (by omega)
  ·have h := of_decide_eq_false h
   obtain rfl : k = 0 := by omega
   exact ⟨by rw [hi]; rfl, rfl⟩
def e79 : SpE := ⟨true, ev2 isD intD (fun b _ => some (b.l.length ≤ 1099511627776)) fun b v => .int (idxFrom b.l v b.l.length)⟩
theorem ok79 : SpE.ok Try.prog 79 e79 := ev2_ok kInts kInt (fun _ _ => rfl) (fun b v h => fn79 b v h)
theorem idxFrom_spec (l : List Int) (v : Int) : ∀ k, k ≤ l.length → (0 ≤ idxFrom l v k ↔ v ∈ l.drop (l.length - k))
 | 0, _ => by simp [idxFrom]
 | k + 1, h => by
   have ih := idxFrom_spec l v k (by omega)
   rw [List.drop_eq_getElem_cons (by omega), List.mem_cons, show l.length - (k + 1) + 1 = l.length - k by omega, ← ih]
   have e : l.getD (l.length - (k + 1)) 0 = l[l.length - (k + 1)]'(by omega) := by
    rw [List.getD_eq_getElem?_getD, List.getElem?_eq_getElem (by omega)]; rfl
   rw [idxFrom, e]
   split
   ·rename_i h1; exact ⟨fun _ => .inl h1, fun _ => by omega⟩
   ·rename_i h1; exact ⟨.inr, fun h => h.resolve_left h1⟩
theorem fn50 (b : Ints) (v : Int) (hb : b.l.length ≤ 1099511627776) : ACalls Try.prog 50 [b.A, .int v] [] (fun r h => r = .bool (decide (v ∈ b.l)) ∧ h = []) := by
 refine o50.run (Γ := G0 keep50 [(79, e79)]) (own := false) (kn := 0) (.cons ok79 o79.enter .nil) (Nat.le_of_ble_eq_true rfl) rfl (Nat.le_refl _) ?_
 dsimp only [c50, keep50, res50, e79, isD, Ints.A, go_sem, Nat.succ, Int.reduceToNat, Nat.reduceAdd, Nat.reduceMul, Nat.reduceSub, Int.reduceLT, Int.reduceLE, Int.reduceNeg, UInt64.reduceToNat, UInt32.reduceToNat, UInt8.reduceToNat]
 refine ⟨hb, ?_, rfl⟩
 have := idxFrom_spec b.l v b.l.length (Nat.le_refl _)
 simp only [Nat.sub_self, List.drop_zero] at this
 rw [decide_eq_decide.2 this]
def e50 : SpE := ⟨true, ev2 isD intD (fun b _ => some (b.l.length ≤ 1099511627776)) fun b v => .bool (decide (v ∈ b.l))⟩
theorem ok50 : SpE.ok Try.prog 50 e50 := ev2_ok kInts kInt (fun _ _ => rfl) (fun b v h => fn50 b v h)

def goodB (c : UInt8) : Bool := !(decide (c.toNat < 33)) && !(decide (126 < c.toNat))
def nameOK (s : List UInt8) : Bool := decide (1 ≤ s.length) && (decide (s.length ≤ 16) && s.all goodB)
theorem all_take (s : List UInt8) (i : Nat) (h : i < s.length) : (s.take (i + 1)).all goodB = ((s.take i).all goodB && goodB (s.getD i 0)) := by
 rw [List.take_succ_eq_append_getElem h, List.all_append]
 simp [List.getD_eq_getElem?_getD, List.getElem?_eq_getElem h]
theorem all_false (s : List UInt8) (i : Nat) (h : i < s.length) (hg : goodB (s.getD i 0) = false) : s.all goodB = false := by
 rw [List.all_eq_false]
 refine ⟨s[i], List.getElem_mem h, ?_⟩
 have : s.getD i 0 = s[i] := by simp [List.getD_eq_getElem?_getD, List.getElem?_eq_getElem h]
 rw [← this, hg]; simp
def L60 (s : List UInt8) : LI where
 X := Nat
 x0 := 0
 pre i := i ≤ s.length ∧ (s.take i).all goodB = true
 inv i := ([(0, .str s), (13, .int s.length), (14, .int i)], [])
 mu i := s.length - i
 ren := false
theorem fn60 (s : List UInt8) : ACalls Try.prog 60 [.str s] [] (fun r h => r = .bool (nameOK s) ∧ h = []) := by
 refine o60.run (Γ := GL keep60 [] fun _ => L60 s) (own := false) (kn := 0) .nil (Nat.le_of_ble_eq_true rfl) rfl (Nat.le_refl _) ?_
 dsimp only [c60, keep60, res60, L60, go_sem, Nat.succ, Int.reduceToNat, Nat.reduceAdd, Nat.reduceMul, Nat.reduceSub, Int.reduceLT, Int.reduceLE, Int.reduceNeg, UInt64.reduceToNat, UInt32.reduceToNat, UInt8.reduceToNat]
 refine fork_intro (fun h => ?_) (fun h => ?_)
 ·have h := of_decide_eq_true h
  refine ⟨?_, by first | rfl | trivial⟩
  rw [nameOK, decide_eq_false (by omega)]; rfl
 ·have h := of_decide_eq_false h
  refine fork_intro (fun h1 => ?_) (fun h1 => ?_)
  ·have h1 := of_decide_eq_true h1
   refine ⟨?_, by first | rfl | trivial⟩
   rw [nameOK, decide_eq_true (by omega), decide_eq_false (by omega)]; rfl
  ·have h1 := of_decide_eq_false h1
   have e0 : nameOK s = s.all goodB := by rw [nameOK, decide_eq_true (by omega), decide_eq_true (by omega)]; rfl
   refine ⟨⟨?_, by omega, rfl⟩, fun i hi => ?_⟩
   ·and_intros <;> first | rfl | trivial
   ·obtain ⟨hi, ha⟩ := hi
    refine fork_intro (fun h2 => ?_) (fun h2 => ?_)
    ·have h2 := of_decide_eq_true h2
     simp only [Int.toNat_natCast]
     refine ⟨by omega, fork_intro (fun h3 => ?_) (fun h3 => ⟨by omega, fork_intro (fun h4 => ?_) (fun h4 => ?_)⟩)⟩
     ·refine ⟨?_, by first | rfl | trivial⟩
      rw [e0, all_false s i (by omega) (by unfold goodB; rw [h3]; rfl)]
     ·refine ⟨?_, by first | rfl | trivial⟩
      rw [e0, all_false s i (by omega) (by unfold goodB; rw [h3, h4]; rfl)]
     ·refine ⟨i + 1, ⟨by omega, ?_⟩, by omega, ?_⟩
      ·rw [all_take s i (by omega), ha, goodB, h3, h4]; rfl
      ·rw [w64_in (by omega)]
       and_intros <;> first | rfl | trivial
    ·have h2 := of_decide_eq_false h2
     obtain rfl : i = s.length := by omega
     rw [List.take_length] at ha
     exact ⟨by rw [e0, ha], rfl⟩
def e60 : SpE := ⟨true, ev1 strD (fun _ => none) fun s => .bool (nameOK s)⟩
theorem ok60 : SpE.ok Try.prog 60 e60 := ev1_ok kStr (fun _ => rfl) (fun b _ => fn60 b)
def L58 (s : List UInt8) : LI where
 X := Nat
 x0 := 0
 pre i := i ≤ s.length ∧ (s.take i).all goodB = true
 inv i := ([(0, .str s), (3, .int i)], [])
 mu i := s.length - i
 ren := false
theorem fn58 (s : List UInt8) (hs : s.length ≤ 1099511627776) : ACalls Try.prog 58 [.str s] [] (fun r h => r = .bool (nameOK s) ∧ h = []) := by
 refine o58.run (Γ := GL keep58 [] fun _ => L58 s) (own := false) (kn := 0) .nil (Nat.le_of_ble_eq_true rfl) rfl (Nat.le_refl _) ?_
 dsimp only [c58, keep58, res58, L58, go_sem, Nat.succ, Int.reduceToNat, Nat.reduceAdd, Nat.reduceMul, Nat.reduceSub, Int.reduceLT, Int.reduceLE, Int.reduceNeg, UInt64.reduceToNat, UInt32.reduceToNat, UInt8.reduceToNat]
 refine ⟨⟨?_, by omega, rfl⟩, fun i hi => ?_⟩
 ·and_intros <;> first | rfl | trivial
 ·obtain ⟨hi, ha⟩ := hi
  refine fork_intro (fun h2 => ?_) (fun h2 => ?_)
  ·have h2 := of_decide_eq_true h2
   simp only [Int.toNat_natCast]
   refine ⟨by omega, fork_intro (fun h3 => ?_) (fun h3 => ⟨by omega, fork_intro (fun h4 => ?_) (fun h4 => ?_)⟩)⟩
   ·refine ⟨?_, by first | rfl | trivial⟩
    rw [nameOK, all_false s i (by omega) (by unfold goodB; rw [h3]; rfl)]; simp
   ·refine ⟨?_, by first | rfl | trivial⟩
    rw [nameOK, all_false s i (by omega) (by unfold goodB; rw [h3, h4]; rfl)]; simp
   ·refine ⟨i + 1, ⟨by omega, ?_⟩, by omega, ?_⟩
    ·rw [all_take s i (by omega), ha, goodB, h3, h4]; rfl
    ·rw [w64_in (by omega)]
     and_intros <;> first | rfl | trivial
  ·have h2 := of_decide_eq_false h2
   obtain rfl : i = s.length := by omega
   rw [List.take_length] at ha
   refine fork_intro (fun h3 => ?_) (fun h3 => ?_)
   ·have h3 := of_decide_eq_true h3
    refine ⟨?_, by first | rfl | trivial⟩
    rw [nameOK, ha, Bool.and_true, decide_eq_true (show 1 ≤ s.length by omega), Bool.true_and]
    exact congrArg AV.bool (decide_eq_decide.2 (by omega))
   ·have h3 := of_decide_eq_false h3
    refine ⟨?_, by first | rfl | trivial⟩
    rw [nameOK, decide_eq_false (show ¬ 1 ≤ s.length by omega)]; rfl
def e58 : SpE := ⟨true, ev1 strD (fun s => some (s.length ≤ 1099511627776)) fun s => .bool (nameOK s)⟩
theorem ok58 : SpE.ok Try.prog 58 e58 := ev1_ok kStr (fun _ => rfl) (fun b h => fn58 b h)

def eightTo (n : Int) : Nat → List UInt8
 | 0 => []
 | i + 1 => eightTo n i ++ [UInt8.ofInt (n / 2 ^ (56 - 8 * i))]
theorem eightTo_len (n : Int) : ∀ i, (eightTo n i).length = i
 | 0 => rfl
 | i + 1 => by simp only [eightTo, List.length_append, eightTo_len n i]; rfl
def L66 (n : Int) : LI where
 X := Nat
 x0 := 0
 pre i := 1 ≤ i ∧ i ≤ 8
 inv i := ([(0, .int n), (3, .ms false 0 0 0 i 1), (4, .int i)], [⟨0, .ab (eightTo n i), false⟩])
 mu i := 8 - i
 ren := true
 peel := true
set_option maxHeartbeats 1000000 in
theorem fn66 (n : Int) : ACalls Try.prog 66 [.int n] [] (fun r h => r = .sl false 8 1 (.ab (eightTo n 8)) false ∧ h = []) := by
 refine o66.run (Γ := GL keep66 [] fun _ => L66 n) (own := false) (kn := 0) .nil (Nat.le_of_ble_eq_true rfl) rfl (Nat.le_refl _) ?_
 dsimp only [c66, keep66, res66, L66, go_sem, Nat.succ, Int.reduceToNat, Nat.reduceAdd, Nat.reduceMul, Nat.reduceSub, Int.reduceLT, Int.reduceLE, Int.reduceNeg, UInt64.reduceToNat, UInt32.reduceToNat, UInt8.reduceToNat]
 refine ⟨fork_intro (fun h => ?_) (fun h => by cases h), fun i hi => ?_⟩
 ·and_intros <;> try (first | trivial | omega)
  refine ⟨1, by omega, [some 0], by first | rfl | trivial, ?_, by first | rfl | trivial, ?_⟩ <;> exact rn
 ·have hb := eightTo_len n i
  have e2 : (eightTo n i).take (i * i) = eightTo n i := by
   have := take_all (l := eightTo n i) (n := i) (.inl (by omega))
   rwa [hb] at this
  refine fork_intro (fun h => ?_) (fun h => ?_)
  ·have h := of_decide_eq_true h
   have e3 : (UInt64.ofInt (w64 (56 - w64 (8 * (i : Int))))).toNat = 56 - 8 * i := by
    rw [w64_in (n := 8 * (i : Int)) (by omega), w64_in (by omega), show (56 : Int) - 8 * (i : Int) = ((56 - 8 * i : Nat) : Int) by omega, u64_small (by omega)]
   simp only [hb, e2, e3, show min (56 - 8 * i) 64 = 56 - 8 * i by omega]
   and_intros <;> try (first | trivial | omega)
   refine ⟨i + 1, by omega, by omega, [some 0], by first | rfl | trivial, ?_, by first | rfl | trivial, ?_⟩
   ·rw [w64_in (n := (i : Int) + 1) (by omega)]
    exact rn
   ·exact rn
  ·have h := of_decide_eq_false h
   obtain rfl : i = 8 := by omega
   and_intros <;> first | trivial | rfl | omega | skip
def e66 : SpE := ⟨true, ev1 intD (fun _ => none) fun n => .sl false 8 1 (.ab (eightTo n 8)) false⟩
theorem ok66 : SpE.ok Try.prog 66 e66 := ev1_ok kInt (fun _ => rfl) (fun b _ => fn66 b)
def numTo (l : List UInt8) : Nat → Int
 | 0 => 0
 | i + 1 => ior (w64 (numTo l i * 2 ^ 8)) ((l.getD i 0).toNat : Int)
def numR (l : List UInt8) : Int := numTo l (min l.length 8)
def L68 (b : By) : LI where
 X := Nat
 x0 := 0
 pre i := i ≤ b.l.length ∧ i ≤ 8
 inv i := ([(0, b.A), (3, .int (numTo b.l i)), (4, .int i)], [])
 mu i := 8 - i
 ren := false
set_option maxHeartbeats 1000000 in
theorem fn68 (b : By) : ACalls Try.prog 68 [b.A] [] (fun r h => r = .int (numR b.l) ∧ h = []) := by
 refine o68.run (Γ := GL keep68 [] fun _ => L68 b) (own := false) (kn := 0) .nil (Nat.le_of_ble_eq_true rfl) rfl (Nat.le_refl _) ?_
 dsimp only [c68, keep68, res68, L68, go_sem, Nat.succ, Int.reduceToNat, Nat.reduceAdd, Nat.reduceMul, Nat.reduceSub, Int.reduceLT, Int.reduceLE, Int.reduceNeg, UInt64.reduceToNat, UInt32.reduceToNat, UInt8.reduceToNat]
 refine ⟨⟨?_, by omega⟩, fun i hi => ?_⟩
 ·and_intros <;> first | rfl | trivial
 ·obtain ⟨hi, h8⟩ := hi
  refine fork_intro (fun h2 => fork_intro (fun h3 => ?_) (fun h3 => ?_)) (fun h2 => ?_)
  ·have h2 := of_decide_eq_true h2
   have h3 := of_decide_eq_true h3
   simp only [Int.toNat_natCast]
   refine ⟨by omega, Nat.zero_lt_one, i + 1, by omega, by omega, ?_⟩
   rw [w64_in (n := (i : Int) + 1) (by omega)]
   and_intros <;> first | rfl | trivial
  ·have h2 := of_decide_eq_true h2
   have h3 := of_decide_eq_false h3
   refine ⟨?_, by first | rfl | trivial⟩
   rw [numR, show min b.l.length 8 = i by omega]
  ·have h2 := of_decide_eq_false h2
   refine ⟨?_, by first | rfl | trivial⟩
   rw [numR, show min b.l.length 8 = i by omega]
def e68 : SpE := ⟨true, ev1 byD (fun _ => none) fun b => .int (numR b.l)⟩
theorem ok68 : SpE.ok Try.prog 68 e68 := ev1_ok kBy (fun _ => rfl) (fun b _ => fn68 b)
theorem fn71 (a b : Int) (hb : 0 < b ∧ b < 2 ^ 62) : ACalls Try.prog 71 [.int a, .int b] [] (fun r h => r = .int (within1 a b) ∧ h = []) := by
 refine o71.run (Γ := G0 keep71 []) (own := false) (kn := 0) SpOK.nil (Nat.le_of_ble_eq_true rfl) rfl (Nat.le_refl _) ?_
 dsimp only [c71, keep71, res71, go_sem, Nat.succ, Int.reduceToNat, Nat.reduceAdd, Nat.reduceMul, Nat.reduceSub, Int.reduceLT, Int.reduceLE, Int.reduceNeg, UInt64.reduceToNat, UInt32.reduceToNat, UInt8.reduceToNat]
 refine ⟨by omega, ?_⟩
 have h1 := Int.tmod_lt_of_pos a hb.1
 refine fork_intro (fun h => ?_) (fun h => ?_)
 ·have h := of_decide_eq_true h
  have h2 : -b < a.tmod b := by
   have := Int.lt_tmod_of_pos a hb.1; omega
  refine ⟨?_, by first | rfl | trivial⟩
  unfold within1
  rw [if_pos h, w64_in (by omega)]
 ·have h := of_decide_eq_false h
  exact ⟨by unfold within1; rw [if_neg h], rfl⟩
def e71 : SpE := ⟨true, ev2 intD intD (fun _ b => some (0 < b ∧ b < 2 ^ 62)) fun a b => .int (within1 a b)⟩
theorem ok71 : SpE.ok Try.prog 71 e71 := ev2_ok kInt kInt (fun _ _ => rfl) (fun a b h => fn71 a b h)
open Go.Proofs
set_option maxRecDepth 100000

theorem Num.bytes_len (x : Num) : x.bytes.length = 32 := rfl
def atB (x : Num) (n : Nat) : List UInt8 := x.bytes.drop (32 - n)
theorem atB_len (x : Num) (n : Nat) (h : n ≤ 32) : (atB x n).length = n := by rw [atB, List.length_drop, Num.bytes_len]; omega
theorem fn62 (x : Num) (n : Nat) (hn : n ≤ 32) : ACalls Try.prog 62 [.agg x.C, .int n] [] (fun r h => r = .sl false n 1 (.ab (atB x n)) false ∧ h = []) := by
 refine o62.run (Γ := G0 keep62 [(82, e82)]) (own := false) (kn := 0) (.cons ok82 o82.enter .nil) (Nat.le_of_ble_eq_true rfl) rfl (Nat.le_refl _) ?_
 dsimp only [c62, keep62, res62, e82, go_sem, Nat.succ, Int.reduceToNat, Nat.reduceAdd, Nat.reduceMul, Nat.reduceSub, Int.reduceLT, Int.reduceLE, Int.reduceNeg, UInt64.reduceToNat, UInt32.reduceToNat, UInt8.reduceToNat]
 have e1 : w64 (((32 : Nat) : Int) - (n : Int)) = ((32 - n : Nat) : Int) := by rw [w64_in (by omega)]; omega
 simp only [e1, Int.toNat_natCast]
 and_intros <;> first | trivial | omega | skip
 rw [show 32 - (32 - n) = n by omega]; rfl
def e62 : SpE := ⟨true, ev2 numD intD (fun _ n => some (0 ≤ n ∧ n ≤ 32)) fun x n => .sl false n.toNat 1 (.ab (atB x n.toNat)) false⟩
theorem ok62 : SpE.ok Try.prog 62 e62 := ev2_ok kNum kInt (fun _ _ => rfl) (fun x n h => by
 simp only [holds] at h
 obtain ⟨k, rfl⟩ : ∃ k : Nat, n = k := ⟨n.toNat, by omega⟩
 exact fn62 x k (by omega))
def wholeB (n : Int) (size : Nat) : By := if n = 0 then ⟨true, []⟩ else ⟨false, atB (Num.from n) size⟩
theorem fn73 (n : Int) (k : Nat) (hk : k ≤ 32) : ACalls Try.prog 73 [.int n, .int k] [] (fun r h => r = (wholeB n k).A ∧ h = []) := by
 refine ACalls.tell (K := fun r h => (n = 0 ∧ r = .sl true 0 0 (.agg []) true ∧ h = []) ∨ (n ≠ 0 ∧ r = .sl false k 1 (.ab (atB (Num.from n) k)) false ∧ h = [])) ?_ ?_
 ·refine o73.run (Γ := G0 keep73 [(62, e62), (63, e63)]) (own := false) (kn := 0) (.cons ok62 o62.enter (.cons ok63 o63.enter .nil)) (Nat.le_of_ble_eq_true rfl) rfl (Nat.le_refl _) ?_
  dsimp only [c73, keep73, res73, e62, e63, go_sem, Nat.succ, Int.reduceToNat, Nat.reduceAdd, Nat.reduceMul, Nat.reduceSub, Int.reduceLT, Int.reduceLE, Int.reduceNeg, UInt64.reduceToNat, UInt32.reduceToNat, UInt8.reduceToNat]
  refine fork_intro (fun h => ?_) (fun h => ?_)
  ·exact .inl ⟨eq_of_beq h, rfl, rfl⟩
  ·exact ⟨by omega, .inr ⟨fun e => by rw [e] at h; simp at h, rfl, rfl⟩⟩
 ·rintro r h1 (⟨h2, rfl, rfl⟩ | ⟨h2, rfl, rfl⟩)
  ·refine ⟨_, _, ⟨rfl, rfl⟩, ?_, TellH.refl _⟩
   rw [wholeB, if_pos h2]; exact tell_nil
  ·refine ⟨_, _, ⟨rfl, rfl⟩, ?_, TellH.refl _⟩
   rw [wholeB, if_neg h2, By.A, atB_len _ _ hk]; exact Tell.refl _
def e73 : SpE := ⟨true, ev2 intD intD (fun _ k => some (0 ≤ k ∧ k ≤ 32)) fun n k => (wholeB n k.toNat).A⟩
theorem ok73 : SpE.ok Try.prog 73 e73 := ev2_ok kInt kInt (fun _ _ => rfl) (fun x n h => by
 simp only [holds] at h
 obtain ⟨k, rfl⟩ : ∃ k : Nat, n = k := ⟨n.toNat, by omega⟩
 exact fn73 x k (by omega))
theorem fn65 (x : Num) : ACalls Try.prog 65 [.agg x.C] [] (fun r h => r = .sl false 4 1 (.ab (be4 x.a0)) false ∧ h = []) := by
 refine o65.run (Γ := G0 keep65 [(83, e83)]) (own := false) (kn := 0) (.cons ok83 o83.enter .nil) (Nat.le_of_ble_eq_true rfl) rfl (Nat.le_refl _) ?_
 dsimp only [c65, keep65, res65, e83, go_sem, Nat.succ, Int.reduceToNat, Nat.reduceAdd, Nat.reduceMul, Nat.reduceSub, Int.reduceLT, Int.reduceLE, Int.reduceNeg, UInt64.reduceToNat, UInt32.reduceToNat, UInt8.reduceToNat]
 and_intros <;> first | trivial | omega | rfl
def e65 : SpE := ⟨true, ev1 numD (fun _ => none) fun x => .sl false 4 1 (.ab (be4 x.a0)) false⟩
theorem ok65 : SpE.ok Try.prog 65 e65 := ev1_ok kNum (fun _ => rfl) (fun x _ => fn65 x)
def Num.low (x : Num) : Bool := x.a1 == 0 && (x.a2 == 0 && (x.a3 == 0 && (x.a4 == 0 && (x.a5 == 0 && (x.a6 == 0 && x.a7 == 0)))))
theorem Num.low_iff (x : Num) : x.low = true ↔ x.a1 = 0 ∧ x.a2 = 0 ∧ x.a3 = 0 ∧ x.a4 = 0 ∧ x.a5 = 0 ∧ x.a6 = 0 ∧ x.a7 = 0 := by
 simp [Num.low]
theorem bw_le (l : List UInt32) : ∀ k, 1 ≤ k → (bw l k ≤ 32 ↔ ∀ j, 1 ≤ j → j < k → l.getD j 0 = 0)
 | 0, h => by omega
 | 1, _ => by
   have := len32_spec (l.getD 0 0)
   simp only [bw]
   constructor
   ·intro _ j h1 h2; omega
   ·intro _; split <;> omega
 | k + 2, _ => by
   have ih := bw_le l (k + 1) (by omega)
   rw [bw]
   split
   ·rename_i h
    have := (len32_spec (l.getD (k + 1) 0)).2.2 h
    exact ⟨fun h' => by omega, fun h' => absurd (h' (k + 1) (by omega) (by omega)) h⟩
   ·rename_i h
    have h : l.getD (k + 1) 0 = 0 := by simpa using h
    rw [ih]
    exact ⟨fun h' j h1 h2 => by
     by_cases e : j = k + 1
     ·rw [e]; exact h
     ·exact h' j h1 (by omega), fun h' j h1 h2 => h' j h1 (by omega)⟩
theorem Num.bits_le (x : Num) : x.bits ≤ 32 ↔ x.low = true := by
 rw [Num.bits, bw_le x.L 8 (by omega), Num.low_iff]
 constructor
 ·intro h; exact ⟨h 1 (by omega) (by omega), h 2 (by omega) (by omega), h 3 (by omega) (by omega), h 4 (by omega) (by omega), h 5 (by omega) (by omega), h 6 (by omega) (by omega), h 7 (by omega) (by omega)⟩
 ·rintro ⟨h1, h2, h3, h4, h5, h6, h7⟩ j k1 k2
  rcases j with _ | _ | _ | _ | _ | _ | _ | _ | j <;> first | omega | assumption
theorem bitR_pos (l : List UInt32) (i : Nat) : 0 < (bitR l i).toNat ↔ (l.getD (i / 32) 0).toNat.testBit (i % 32) = true := by
 unfold bitR
 rw [UInt32.toNat_and, u32_shr, Nat.testBit_eq_decide_div_mod_eq]
 have : ∀ n : Nat, n &&& (1 : UInt32).toNat = n % 2 := fun n => Nat.and_one_is_mod n
 rw [this]
 simp only [decide_eq_true_eq]
 omega
theorem brR_le (l : List UInt32) : ∀ k, 32 ≤ k → (brR l k ≤ 32 ↔ ∀ j, 32 ≤ j → j < k → ¬ 0 < (bitR l j).toNat)
 | 0, h => by omega
 | k + 1, hk => by
   rw [brR]
   by_cases h32 : k + 1 = 32
   ·have : k = 31 := by omega
    subst this
    have small : ∀ k, brR l k ≤ (k : Int) := fun k => by
     induction k with
     | zero => simp [brR]
     | succ k ih => rw [brR]; split <;> omega
    constructor
    ·intro _ j h1 h2; omega
    ·intro _; have := small 31; split <;> omega
   ·have ih := brR_le l k (by omega)
    split
    ·rename_i h
     exact ⟨fun h' => by omega, fun h' => absurd h (h' k (by omega) (by omega))⟩
    ·rename_i h
     rw [ih]
     exact ⟨fun h' j h1 h2 => by
      by_cases e : j = k
      ·rw [e]; exact h
      ·exact h' j h1 (by omega), fun h' j h1 h2 => h' j h1 (by omega)⟩
theorem Num.bitsR_le (x : Num) : x.bitsR ≤ 32 ↔ x.low = true := by
 rw [Num.bitsR, brR_le x.L 256 (by omega), Num.low_iff]
 have zero : ∀ k, 1 ≤ k → k < 8 → ((∀ j, 32 ≤ j → j < 256 → ¬ 0 < (bitR x.L j).toNat) → x.L.getD k 0 = 0) := fun k h1 h2 h => by
  apply UInt32.toNat_inj.1
  apply Nat.eq_of_testBit_eq
  intro i
  by_cases hi : i < 32
  ·have := h (32 * k + i) (by omega) (by omega)
   rw [bitR_pos, show (32 * k + i) / 32 = k by omega, show (32 * k + i) % 32 = i by omega] at this
   simpa using this
  ·rw [Nat.testBit_lt_two_pow (Nat.lt_of_lt_of_le (x.L.getD k 0).toNat_lt (Nat.pow_le_pow_right (by omega) (by omega)))]; simp
 constructor
 ·intro h; exact ⟨zero 1 (by omega) (by omega) h, zero 2 (by omega) (by omega) h, zero 3 (by omega) (by omega) h, zero 4 (by omega) (by omega) h, zero 5 (by omega) (by omega) h, zero 6 (by omega) (by omega) h, zero 7 (by omega) (by omega) h⟩
 ·rintro ⟨h1, h2, h3, h4, h5, h6, h7⟩ j k1 k2
  rw [bitR_pos]
  have : x.L.getD (j / 32) 0 = 0 := by
   have hj : 1 ≤ j / 32 ∧ j / 32 < 8 := by omega
   generalize j / 32 = q at hj
   rcases q with _ | _ | _ | _ | _ | _ | _ | _ | q <;> first | omega | assumption
  rw [this]; simp
theorem fn59 (x : Num) : ACalls Try.prog 59 [.agg x.C] [] (fun r h => r = .bool x.low ∧ h = []) := by
 refine o59.run (Γ := G0 keep59 [(41, e41)]) (own := false) (kn := 0) (.cons ok41 o41.enter .nil) (Nat.le_of_ble_eq_true rfl) rfl (Nat.le_refl _) ?_
 dsimp only [c59, keep59, res59, e41, go_sem, Nat.succ, Int.reduceToNat, Nat.reduceAdd, Nat.reduceMul, Nat.reduceSub, Int.reduceLT, Int.reduceLE, Int.reduceNeg, UInt64.reduceToNat, UInt32.reduceToNat, UInt8.reduceToNat]
 and_intros <;> first | trivial | omega | skip
 refine congrArg AV.bool ?_
 rw [Bool.eq_iff_iff, decide_eq_true_iff, Num.bitsR_le]
def e59 : SpE := ⟨true, ev1 numD (fun _ => none) fun x => .bool x.low⟩
theorem ok59 : SpE.ok Try.prog 59 e59 := ev1_ok kNum (fun _ => rfl) (fun x _ => fn59 x)

structure Fd where
 k : Int
 b : By
 ok : Bool
def Fd.C (f : Fd) : List AV := [.int f.k, f.b.A, .bool f.ok]
theorem fn74 (k : Int) (s : List UInt8) (most : Int) : ACalls Try.prog 74 [.int k, .str s, .int most] [] (fun r h => r = .agg (Fd.C ⟨k, ⟨false, s⟩, decide ((s.length : Int) ≤ most)⟩) ∧ h = []) := by
 refine o74.run (Γ := G0 keep74 []) (own := false) (kn := 0) .nil (Nat.le_of_ble_eq_true rfl) rfl (Nat.le_refl _) ?_
 dsimp only [c74, keep74, res74, Fd.C, go_sem, Nat.succ, Int.reduceToNat, Nat.reduceAdd, Nat.reduceMul, Nat.reduceSub, Int.reduceLT, Int.reduceLE, Int.reduceNeg, UInt64.reduceToNat, UInt32.reduceToNat, UInt8.reduceToNat]
 and_intros <;> first | trivial | omega | rfl
def e74 : SpE := ⟨true, ev3 intD strD intD (fun _ _ _ => none) fun k s m => .agg [.int k, .sl false s.length 1 (.ab s) false, .bool (decide ((s.length : Int) ≤ m))]⟩
theorem ok74 : SpE.ok Try.prog 74 e74 := ev3_ok kInt kStr kInt (fun _ _ _ => rfl) (fun k s m _ => fn74 k s m)
theorem fn76 (k : Int) (b : By) (most : Int) : ACalls Try.prog 76 [.int k, b.A, .int most] [] (fun r h => r = .agg (Fd.C ⟨k, b, decide ((b.l.length : Int) ≤ most)⟩) ∧ h = []) := by
 refine o76.run (Γ := G0 keep76 []) (own := false) (kn := 0) .nil (Nat.le_of_ble_eq_true rfl) rfl (Nat.le_refl _) ?_
 dsimp only [c76, keep76, res76, Fd.C, go_sem, Nat.succ, Int.reduceToNat, Nat.reduceAdd, Nat.reduceMul, Nat.reduceSub, Int.reduceLT, Int.reduceLE, Int.reduceNeg, UInt64.reduceToNat, UInt32.reduceToNat, UInt8.reduceToNat]
 and_intros <;> first | trivial | omega | rfl
def e76 : SpE := ⟨true, ev3 intD byD intD (fun _ _ _ => none) fun k b m => .agg [.int k, b.A, .bool (decide ((b.l.length : Int) ≤ m))]⟩
theorem ok76 : SpE.ok Try.prog 76 e76 := ev3_ok kInt kBy kInt (fun _ _ _ => rfl) (fun k s m _ => fn76 k s m)
open Go.Proofs
set_option maxRecDepth 100000

structure Msg where
 kind : Int
 proto : Int
 channel : Int
 e : Int
 name : List UInt8
 a : Num
 b : Num
 salt : By
 sea : By
 tag : By
 tok : By
 rcd : By
def Msg.C (m : Msg) : List AV := [.int m.kind, .int m.proto, .int m.channel, .int m.e, .str m.name, .u32 m.a.a0, .u32 m.a.a1, .u32 m.a.a2, .u32 m.a.a3, .u32 m.a.a4, .u32 m.a.a5, .u32 m.a.a6, .u32 m.a.a7,
 .u32 m.b.a0, .u32 m.b.a1, .u32 m.b.a2, .u32 m.b.a3, .u32 m.b.a4, .u32 m.b.a5, .u32 m.b.a6, .u32 m.b.a7, m.salt.A, m.sea.A, m.tag.A, m.tok.A, m.rcd.A]
def msgD : AV → Option Msg
 | .agg [.int k, .int p, .int c, .int e, .str s, .u32 a0, .u32 a1, .u32 a2, .u32 a3, .u32 a4, .u32 a5, .u32 a6, .u32 a7, .u32 b0, .u32 b1, .u32 b2, .u32 b3, .u32 b4, .u32 b5, .u32 b6, .u32 b7, x1, x2, x3, x4, x5] =>
   match byD x1 with
   | some y1 => match byD x2 with
     | some y2 => match byD x3 with
       | some y3 => match byD x4 with
         | some y4 => match byD x5 with
           | some y5 => some ⟨k, p, c, e, s, ⟨a0, a1, a2, a3, a4, a5, a6, a7⟩, ⟨b0, b1, b2, b3, b4, b5, b6, b7⟩, y1, y2, y3, y4, y5⟩
           | none => none
         | none => none
       | none => none
     | none => none
   | none => none
 | _ => none
theorem msgD_tell (a : AV) (m : Msg) (h : msgD a = some m) : Tell a (.agg m.C) := by
 unfold msgD at h
 split at h
 ·split at h
  ·rename_i h1
   split at h
   ·rename_i h2
    split at h
    ·rename_i h3
     split at h
     ·rename_i h4
      split at h
      ·rename_i h5
       cases h
       refine Tell.agg ?_
       simp only [Msg.C, TellL]
       exact ⟨Tell.refl _, Tell.refl _, Tell.refl _, Tell.refl _, Tell.refl _, Tell.refl _, Tell.refl _, Tell.refl _, Tell.refl _, Tell.refl _, Tell.refl _, Tell.refl _, Tell.refl _, Tell.refl _, Tell.refl _, Tell.refl _,
        Tell.refl _, Tell.refl _, Tell.refl _, Tell.refl _, Tell.refl _, byD_tell _ _ h1, byD_tell _ _ h2, byD_tell _ _ h3, byD_tell _ _ h4, byD_tell _ _ h5, trivial⟩
      ·cases h
     ·cases h
    ·cases h
   ·cases h
  ·cases h
 ·cases h
def kMsg : Kd Msg := ⟨msgD, fun m => .agg m.C, msgD_tell, fun _ => rfl⟩

theorem eqs_num (x : Num) : (x.a0 == 0 && (x.a1 == 0 && (x.a2 == 0 && (x.a3 == 0 && (x.a4 == 0 && (x.a5 == 0 && (x.a6 == 0 && x.a7 == 0))))))) = decide (x = Num.zero) := by
 rw [Bool.eq_iff_iff]
 obtain ⟨a0, a1, a2, a3, a4, a5, a6, a7⟩ := x
 simp [Num.zero]
def fourB (x : Num) : By := if x = Num.zero then ⟨true, []⟩ else ⟨false, be4 x.a0⟩
theorem fn75 (k : Int) (x : Num) : ACalls Try.prog 75 [.int k, .agg x.C] [] (fun r h => r = .agg (Fd.C ⟨k, fourB x, x.low⟩) ∧ h = []) := by
 refine ACalls.tell (K := fun r h => (x = Num.zero ∧ r = .agg [.int k, .sl true 0 0 (.agg []) true, .bool x.low] ∧ h = []) ∨ (x ≠ Num.zero ∧ r = .agg [.int k, .sl false 4 1 (.ab (atB x 4)) false, .bool x.low] ∧ h = [])) ?_ ?_
 ·refine o75.run (Γ := G0 keep75 [(62, e62), (61, e61)]) (own := false) (kn := 0) (.cons ok62 o62.enter (.cons ok61 o61.enter .nil)) (Nat.le_of_ble_eq_true rfl) rfl (Nat.le_refl _) ?_
  dsimp only [c75, keep75, res75, e62, e61, go_sem, Nat.succ, Int.reduceToNat, Nat.reduceAdd, Nat.reduceMul, Nat.reduceSub, Int.reduceLT, Int.reduceLE, Int.reduceNeg, UInt64.reduceToNat, UInt32.reduceToNat, UInt8.reduceToNat]
  have e1 : decide (x.bits ≤ 32) = x.low := by rw [Bool.eq_iff_iff, decide_eq_true_iff, Num.bits_le]
  rw [eqs_num, e1]
  refine ⟨by omega, fork_intro (fun h => ?_) (fun h => ?_)⟩
  ·have h := of_decide_eq_true h
   and_intros <;> first | trivial | omega | skip
   exact .inl ⟨h, rfl, rfl⟩
  ·have h := of_decide_eq_false h
   and_intros <;> first | trivial | omega | skip
   exact .inr ⟨h, rfl, rfl⟩
 ·rintro r h1 (⟨h2, rfl, rfl⟩ | ⟨h2, rfl, rfl⟩)
  ·refine ⟨_, _, ⟨rfl, rfl⟩, ?_, TellH.refl _⟩
   rw [fourB, if_pos h2]; exact Tell.agg ⟨Tell.refl _, tell_nil, Tell.refl _, trivial⟩
  ·refine ⟨_, _, ⟨rfl, rfl⟩, ?_, TellH.refl _⟩
   rw [fourB, if_neg h2]; exact Tell.refl _
def e75 : SpE := ⟨true, ev2 intD numD (fun _ _ => none) fun k x => .agg [.int k, (fourB x).A, .bool x.low]⟩
theorem ok75 : SpE.ok Try.prog 75 e75 := ev2_ok kInt kNum (fun _ _ => rfl) (fun k x _ => fn75 k x)

def ofTo (l : List Int) : Nat → Int
 | 0 => 0
 | i + 1 => ior (ofTo l i) (w64 (2 ^ (l.getD i 0).toNat))
def L80 (b : Ints) : LI where
 X := Nat
 x0 := 0
 pre i := i ≤ b.l.length
 inv i := ([(0, b.A), (3, .int (ofTo b.l i)), (4, .int i)], [])
 mu i := b.l.length - i
 ren := false
theorem fn80 (b : Ints) (hb : b.l.length ≤ 1099511627776 ∧ ∀ v ∈ b.l, 0 ≤ v ∧ v < 60) : ACalls Try.prog 80 [b.A] [] (fun r h => r = .int (ofTo b.l b.l.length) ∧ h = []) := by
 refine o80.run (Γ := GL keep80 [] fun _ => L80 b) (own := false) (kn := 0) .nil (Nat.le_of_ble_eq_true rfl) rfl (Nat.le_refl _) ?_
 dsimp only [c80, keep80, res80, L80, Ints.A, go_sem, Nat.succ, Int.reduceToNat, Nat.reduceAdd, Nat.reduceMul, Nat.reduceSub, Int.reduceLT, Int.reduceLE, Int.reduceNeg, UInt64.reduceToNat, UInt32.reduceToNat, UInt8.reduceToNat]
 refine ⟨⟨?_, by omega⟩, fun i hi => ?_⟩
 ·and_intros <;> first | rfl | trivial
 ·refine fork_intro (fun h2 => ?_) (fun h2 => ?_)
  ·have h2 := of_decide_eq_true h2
   have hv : b.l.getD i 0 ∈ b.l := by rw [List.getD_eq_getElem?_getD, List.getElem?_eq_getElem (by omega)]; exact List.getElem_mem _
   have hv := hb.2 _ hv
   simp only [Int.toNat_natCast]
   refine ⟨by omega, Nat.zero_lt_one, i + 1, by omega, by omega, ?_⟩
   rw [w64_in (n := (i : Int) + 1) (by omega)]
   and_intros <;> first | rfl | trivial | skip
   refine congrArg AV.int ?_
   simp only [ofTo]
   have e : [b.l.getD i 0].getD 0 0 = b.l.getD i 0 := rfl
   rw [e]
   obtain ⟨k, hk⟩ : ∃ k : Nat, b.l.getD i 0 = k := ⟨(b.l.getD i 0).toNat, by omega⟩
   rw [hk] at hv ⊢
   rw [u64_small (by omega), Int.one_mul, show min k 64 = k by omega]; rfl
  ·have h2 := of_decide_eq_false h2
   obtain rfl : i = b.l.length := by omega
   exact ⟨rfl, rfl⟩
def e80 : SpE := ⟨true, ev1 isD (fun b => some (b.l.length ≤ 1099511627776 ∧ ∀ v ∈ b.l, 0 ≤ v ∧ v < 60)) fun b => .int (ofTo b.l b.l.length)⟩
theorem ok80 : SpE.ok Try.prog 80 e80 := ev1_ok kInts (fun _ => rfl) (fun b h => fn80 b h)
def wantL (m : Msg) : List Int :=
 if m.kind = 1 then (if m.proto = 2 then [1, 2, 3, 4] else [1, 2, 3])
 else if m.kind = 2 then (if m.proto = 2 then [1, 3, 4, 6] else [1, 4, 5])
 else if m.kind = 3 then [7]
 else if m.kind = 4 then (if 0 < (m.tag.l.length : Int) then [7, 8] else [8])
 else if m.kind = 5 then [11]
 else if m.kind = 6 then [1, 2, 9]
 else if m.kind = 7 then []
 else if m.kind = 8 then [8, 10]
 else if m.kind = 12 then [8, 10]
 else if m.kind = 9 then [8]
 else if m.kind = 10 then [8]
 else if m.kind = 11 then [1, 8, 9]
 else []
theorem fn57 (m : Msg) : ACalls Try.prog 57 [.agg m.C] [] (fun r h => r = .int (if 1 ≤ m.kind ∧ m.kind ≤ 12 then ofTo (wantL m) (wantL m).length else -1) ∧ h = []) := by
 refine o57.run (Γ := G0 keep57 [(80, e80)]) (own := false) (kn := 0) (.cons ok80 o80.enter .nil) (Nat.le_of_ble_eq_true rfl) rfl (Nat.le_refl _) ?_
 dsimp only [c57, keep57, res57, e80, Msg.C, isD, go_sem, Nat.succ, Int.reduceToNat, Nat.reduceAdd, Nat.reduceMul, Nat.reduceSub, Int.reduceLT, Int.reduceLE, Int.reduceNeg, UInt64.reduceToNat, UInt32.reduceToNat, UInt8.reduceToNat]
 repeat' (refine fork_intro (fun h => ?_) (fun h => ?_))
 all_goals simp only [beq_iff_eq, beq_eq_false_iff_ne, decide_eq_true_eq, decide_eq_false_iff_not, ne_eq] at *
 all_goals and_intros
 all_goals first | trivial | rfl | decide | (refine congrArg AV.int ?_; simp [wantL, *]; done) | (refine congrArg AV.int ?_; simp only [wantL, *, Int.reduceEq, Int.reduceLE, and_self, ↓reduceIte]; done) | (refine congrArg AV.int ?_; simp [wantL, ofTo, *]; done) | (refine congrArg AV.int ?_; rw [if_neg (by omega)])
def e57 : SpE := ⟨true, ev1 msgD (fun _ => none) fun m => .int (if 1 ≤ m.kind ∧ m.kind ≤ 12 then ofTo (wantL m) (wantL m).length else -1)⟩
theorem ok57 : SpE.ok Try.prog 57 e57 := ev1_ok kMsg (fun _ => rfl) (fun m _ => fn57 m)
def wantsI (m : Msg) : Ints := ⟨(wantL m).isEmpty, wantL m⟩
theorem tell_nilI : Tell (.sl true 0 0 (.agg []) true) (Ints.A ⟨true, []⟩) := isD_tell _ _ rfl
theorem fn49 (m : Msg) : ACalls Try.prog 49 [.agg m.C] [] (fun r h => r = (wantsI m).A ∧ h = []) := by
 refine ACalls.tell (K := fun r h => isD r = some (wantsI m) ∧ h = []) ?_ ?_
 ·refine o49.run (Γ := G0 keep49 []) (own := false) (kn := 0) .nil (Nat.le_of_ble_eq_true rfl) rfl (Nat.le_refl _) ?_
  dsimp only [c49, keep49, res49, Msg.C, isD, go_sem, Nat.succ, Int.reduceToNat, Nat.reduceAdd, Nat.reduceMul, Nat.reduceSub, Int.reduceLT, Int.reduceLE, Int.reduceNeg, UInt64.reduceToNat, UInt32.reduceToNat, UInt8.reduceToNat]
  repeat' (refine fork_intro (fun h => ?_) (fun h => ?_))
  all_goals simp only [beq_iff_eq, beq_eq_false_iff_ne, decide_eq_true_eq, decide_eq_false_iff_not, ne_eq] at *
  all_goals and_intros
  all_goals first | trivial | rfl | decide | (refine congrArg some ?_; simp [wantsI, wantL, *]; done) | (refine congrArg some ?_; simp only [wantsI, wantL, *, Int.reduceEq, Int.reduceLE, and_self, ↓reduceIte]; rfl) | skip
 ·rintro r h1 ⟨h2, rfl⟩
  exact ⟨_, _, ⟨rfl, rfl⟩, isD_tell _ _ h2, TellH.refl _⟩
def e49 : SpE := ⟨true, ev1 msgD (fun _ => none) fun m => (wantsI m).A⟩
theorem ok49 : SpE.ok Try.prog 49 e49 := ev1_ok kMsg (fun _ => rfl) (fun m _ => fn49 m)

def Num.isZ (x : Num) : Bool := x.a0 == 0 && (x.a1 == 0 && (x.a2 == 0 && (x.a3 == 0 && (x.a4 == 0 && (x.a5 == 0 && (x.a6 == 0 && x.a7 == 0))))))
theorem Num.isZ_eq (x : Num) : x.isZ = decide (x = Num.zero) := eqs_num x
def Msg.has (m : Msg) : Nat → Bool
 | 1 => !(m.proto == 0)
 | 2 => !(m.name == [])
 | 3 => !m.a.isZ
 | 4 => !m.b.isZ
 | 5 => decide (0 < (m.salt.l.length : Int))
 | 6 => decide (0 < (m.sea.l.length : Int))
 | 7 => decide (0 < (m.tag.l.length : Int))
 | 8 => decide (0 < (m.tok.l.length : Int))
 | 9 => decide (0 < (m.rcd.l.length : Int))
 | 10 => !(m.channel == 0)
 | 11 => !(m.e == 0)
 | _ => false
def bit1 (b : Bool) (k : Nat) : Nat := match b with | true => 2 ^ k | false => 0
def Msg.thereTo (m : Msg) : Nat → Nat
 | 0 => 0
 | i + 1 => m.thereTo i + bit1 (m.has i) i
theorem Msg.thereTo_lt (m : Msg) : ∀ i, m.thereTo i < 2 ^ i
 | 0 => by simp [Msg.thereTo]
 | i + 1 => by
   have := Msg.thereTo_lt m i
   simp only [Msg.thereTo, bit1]
   rw [Nat.pow_succ]
   split <;> omega
theorem ior_pow {n i : Nat} (h : n < 2 ^ i) (hi : i < 60) : ior (n : Int) (w64 (1 * 2 ^ min (UInt64.ofInt (i : Int)).toNat 64)) = ((n + 2 ^ i : Nat) : Int) := by
 rw [u64_small (by omega), show min i 64 = i by omega, Int.one_mul]
 have h2 : (2 : Nat) ^ i < 2 ^ 60 := Nat.pow_lt_pow_right (by omega) hi
 have e1 : ((2 : Int) ^ i) = ((2 ^ i : Nat) : Int) := by simp
 rw [e1, w64_in (by omega), ior]
 have e2 : (BitVec.ofInt 64 (n : Int) ||| BitVec.ofInt 64 ((2 ^ i : Nat) : Int)).toNat = n + 2 ^ i := by
  have := Nat.two_pow_add_eq_or_of_lt h 1
  simp only [Nat.mul_one] at this
  rw [BitVec.toNat_or, BitVec.ofInt_natCast, BitVec.ofInt_natCast, BitVec.toNat_ofNat, BitVec.toNat_ofNat, Nat.mod_eq_of_lt (by omega), Nat.mod_eq_of_lt (by omega), Nat.or_comm, ← this]
  omega
 rw [e2, wr64 (by omega)]
def ilit : Nat → Int
 | 0 => 0 | 1 => 1 | 2 => 2 | 3 => 3 | 4 => 4 | 5 => 5 | 6 => 6 | 7 => 7 | 8 => 8 | 9 => 9 | 10 => 10 | 11 => 11 | 12 => 12
 | n + 13 => (n : Int) + 13
theorem ilit_eq : ∀ n, ilit n = (n : Int)
 | 0 | 1 | 2 | 3 | 4 | 5 | 6 | 7 | 8 | 9 | 10 | 11 | 12 => rfl
 | n + 13 => by simp only [ilit]; omega
def L46 (m : Msg) : LI where
 X := Nat
 x0 := 0
 pre i := i ≤ 12
 inv i := ([(3, .sl false 12 1 (.agg [.bool (m.has 0), .bool (m.has 1), .bool (m.has 2), .bool (m.has 3), .bool (m.has 4), .bool (m.has 5), .bool (m.has 6), .bool (m.has 7), .bool (m.has 8), .bool (m.has 9), .bool (m.has 10), .bool (m.has 11)]) true),
  (4, .int (m.thereTo i)), (5, .int (ilit i))], [⟨0, .agg m.C, false⟩])
 mu i := 12 - i
 ren := false
 fin := some [0, 1, 2, 3, 4, 5, 6, 7, 8, 9, 10, 11, 12]
set_option maxHeartbeats 4000000 in
theorem fn46 (m : Msg) : ACalls Try.prog 46 [.agg m.C] [] (fun r h => r = .int (m.thereTo 12) ∧ h = []) := by
 refine o46.run (Γ := GL keep46 [] fun _ => L46 m) (own := false) (kn := 0) .nil (Nat.le_of_ble_eq_true rfl) rfl (Nat.le_refl _) ?_
 dsimp only [c46, keep46, res46, L46, Msg.C, ilit, go_sem, Nat.succ, Int.reduceToNat, Nat.reduceAdd, Nat.reduceMul, Nat.reduceSub, Int.reduceLT, Int.reduceLE, Int.reduceNeg, UInt64.reduceToNat, UInt32.reduceToNat, UInt8.reduceToNat]
 have key : ∀ i, i < 12 → m.has i = true → AV.int (ior (m.thereTo i : Int) (w64 (1 * 2 ^ min (UInt64.ofInt (ilit i)).toNat 64))) = AV.int (m.thereTo (i + 1) : Nat) := fun i hi hh => by
  rw [ilit_eq, ior_pow (m.thereTo_lt i) (by omega)]
  simp only [Msg.thereTo, bit1, hh]
 have key0 : ∀ i, m.has i = false → AV.int (m.thereTo i : Nat) = AV.int (m.thereTo (i + 1) : Nat) := fun i hh => by
  simp only [Msg.thereTo, bit1, hh, Nat.add_zero]
 refine ⟨⟨?_, by omega⟩, fun x hx => ?_, ?_⟩
 ·and_intros <;> first | rfl | trivial | exact .inl rfl
 ·have : x < 13 := by omega
  rcases x with _ | _ | _ | _ | _ | _ | _ | _ | _ | _ | _ | _ | _ | x <;> first | (simp; done) | omega
 ·refine ⟨?_, ?_, ?_, ?_, ?_, ?_, ?_, ?_, ?_, ?_, ?_, ?_, ?_, trivial⟩
  ·refine fork_intro (fun _ => ⟨by omega, fork_intro (fun h => ⟨1, by omega, by omega, ?_⟩) (fun h => ⟨1, by omega, by omega, ?_⟩)⟩) (fun h => by cases h)
   ·and_intros <;> first | rfl | trivial | exact .inl rfl | exact key 0 (by omega) h
   ·and_intros <;> first | rfl | trivial | exact .inl rfl | exact key0 0 h
  ·refine fork_intro (fun _ => ⟨by omega, fork_intro (fun h => ⟨2, by omega, by omega, ?_⟩) (fun h => ⟨2, by omega, by omega, ?_⟩)⟩) (fun h => by cases h)
   ·and_intros <;> first | rfl | trivial | exact .inl rfl | exact key 1 (by omega) h
   ·and_intros <;> first | rfl | trivial | exact .inl rfl | exact key0 1 h
  ·refine fork_intro (fun _ => ⟨by omega, fork_intro (fun h => ⟨3, by omega, by omega, ?_⟩) (fun h => ⟨3, by omega, by omega, ?_⟩)⟩) (fun h => by cases h)
   ·and_intros <;> first | rfl | trivial | exact .inl rfl | exact key 2 (by omega) h
   ·and_intros <;> first | rfl | trivial | exact .inl rfl | exact key0 2 h
  ·refine fork_intro (fun _ => ⟨by omega, fork_intro (fun h => ⟨4, by omega, by omega, ?_⟩) (fun h => ⟨4, by omega, by omega, ?_⟩)⟩) (fun h => by cases h)
   ·and_intros <;> first | rfl | trivial | exact .inl rfl | exact key 3 (by omega) h
   ·and_intros <;> first | rfl | trivial | exact .inl rfl | exact key0 3 h
  ·refine fork_intro (fun _ => ⟨by omega, fork_intro (fun h => ⟨5, by omega, by omega, ?_⟩) (fun h => ⟨5, by omega, by omega, ?_⟩)⟩) (fun h => by cases h)
   ·and_intros <;> first | rfl | trivial | exact .inl rfl | exact key 4 (by omega) h
   ·and_intros <;> first | rfl | trivial | exact .inl rfl | exact key0 4 h
  ·refine fork_intro (fun _ => ⟨by omega, fork_intro (fun h => ⟨6, by omega, by omega, ?_⟩) (fun h => ⟨6, by omega, by omega, ?_⟩)⟩) (fun h => by cases h)
   ·and_intros <;> first | rfl | trivial | exact .inl rfl | exact key 5 (by omega) h
   ·and_intros <;> first | rfl | trivial | exact .inl rfl | exact key0 5 h
  ·refine fork_intro (fun _ => ⟨by omega, fork_intro (fun h => ⟨7, by omega, by omega, ?_⟩) (fun h => ⟨7, by omega, by omega, ?_⟩)⟩) (fun h => by cases h)
   ·and_intros <;> first | rfl | trivial | exact .inl rfl | exact key 6 (by omega) h
   ·and_intros <;> first | rfl | trivial | exact .inl rfl | exact key0 6 h
  ·refine fork_intro (fun _ => ⟨by omega, fork_intro (fun h => ⟨8, by omega, by omega, ?_⟩) (fun h => ⟨8, by omega, by omega, ?_⟩)⟩) (fun h => by cases h)
   ·and_intros <;> first | rfl | trivial | exact .inl rfl | exact key 7 (by omega) h
   ·and_intros <;> first | rfl | trivial | exact .inl rfl | exact key0 7 h
  ·refine fork_intro (fun _ => ⟨by omega, fork_intro (fun h => ⟨9, by omega, by omega, ?_⟩) (fun h => ⟨9, by omega, by omega, ?_⟩)⟩) (fun h => by cases h)
   ·and_intros <;> first | rfl | trivial | exact .inl rfl | exact key 8 (by omega) h
   ·and_intros <;> first | rfl | trivial | exact .inl rfl | exact key0 8 h
  ·refine fork_intro (fun _ => ⟨by omega, fork_intro (fun h => ⟨10, by omega, by omega, ?_⟩) (fun h => ⟨10, by omega, by omega, ?_⟩)⟩) (fun h => by cases h)
   ·and_intros <;> first | rfl | trivial | exact .inl rfl | exact key 9 (by omega) h
   ·and_intros <;> first | rfl | trivial | exact .inl rfl | exact key0 9 h
  ·refine fork_intro (fun _ => ⟨by omega, fork_intro (fun h => ⟨11, by omega, by omega, ?_⟩) (fun h => ⟨11, by omega, by omega, ?_⟩)⟩) (fun h => by cases h)
   ·and_intros <;> first | rfl | trivial | exact .inl rfl | exact key 10 (by omega) h
   ·and_intros <;> first | rfl | trivial | exact .inl rfl | exact key0 10 h
  ·refine fork_intro (fun _ => ⟨by omega, fork_intro (fun h => ⟨12, by omega, by omega, ?_⟩) (fun h => ⟨12, by omega, by omega, ?_⟩)⟩) (fun h => by cases h)
   ·and_intros <;> first | rfl | trivial | exact .inl rfl | exact key 11 (by omega) h
   ·and_intros <;> first | rfl | trivial | exact .inl rfl | exact key0 11 h
  ·refine fork_intro (fun h => by cases h) (fun _ => ?_)
   and_intros <;> first | rfl | trivial | omega
def e46 : SpE := ⟨true, ev1 msgD (fun _ => none) fun m => .int (m.thereTo 12)⟩
theorem ok46 : SpE.ok Try.prog 46 e46 := ev1_ok kMsg (fun _ => rfl) (fun m _ => fn46 m)

theorem Num.eta (x : Num) : Num.mk x.a0 x.a1 x.a2 x.a3 x.a4 x.a5 x.a6 x.a7 = x := rfl
theorem By.eta (x : By) : By.mk x.nil x.l = x := rfl
theorem Ints.eta (x : Ints) : Ints.mk x.nil x.l = x := rfl
theorem Msg.eta (m : Msg) : Msg.mk m.kind m.proto m.channel m.e m.name m.a m.b m.salt m.sea m.tag m.tok m.rcd = m := rfl
open Go.Proofs
set_option maxRecDepth 100000

def wantN (m : Msg) : Int := if 1 ≤ m.kind ∧ m.kind ≤ 12 then ofTo (wantL m) (wantL m).length else -1
def Msg.okR (m : Msg) : Bool := decide ((m.salt.l.length : Int) ≤ 16) && (decide ((m.sea.l.length : Int) ≤ 48) && (decide ((m.tag.l.length : Int) ≤ 16) && (decide ((m.tok.l.length : Int) ≤ 80) && (decide ((m.rcd.l.length : Int) ≤ 120) && (decide (0 ≤ m.channel) && (decide (0 ≤ m.e) && decide (m.e ≤ 11)))))))
def Msg.rightR (m : Msg) : Bool := ((m.thereTo 12 : Int) == wantN m) && (!decide (m.proto < 0) && (!decide (2 < m.proto) && ((m.name == [] || nameOK m.name) && (m.a.low && (m.b.low && m.okR)))))
def e57' : SpE := ⟨true, ev1 msgD (fun _ => none) fun m => .int (wantN m)⟩
theorem ok57' : SpE.ok Try.prog 57 e57' := ok57
set_option maxHeartbeats 2000000 in
theorem fn25 (m : Msg) (hs : m.name.length ≤ 1099511627776) : ACalls Try.prog 25 [.agg m.C] [] (fun r h => r = .bool m.rightR ∧ h = []) := by
 refine o25.run (Γ := G0 keep25 [(46, e46), (57, e57'), (58, e58), (59, e59)]) (own := false) (kn := 0) (.cons ok46 o46.enter (.cons ok57' o57.enter (.cons ok58 o58.enter (.cons ok59 o59.enter .nil)))) (Nat.le_of_ble_eq_true rfl) rfl (Nat.le_refl _) ?_
 dsimp only [c25, keep25, res25, Msg.C, msgD, e46, e57', e58, e59, Num.eta, By.eta, Msg.eta, go_sem, Nat.succ, Int.reduceToNat, Nat.reduceAdd, Nat.reduceMul, Nat.reduceSub, Int.reduceLT, Int.reduceLE, Int.reduceNeg, UInt64.reduceToNat, UInt32.reduceToNat, UInt8.reduceToNat]
 unfold Msg.rightR Msg.okR
 generalize ((m.thereTo 12 : Int) == wantN m) = b1
 generalize decide (m.proto < 0) = b2
 generalize decide (2 < m.proto) = b3
 generalize (m.name == []) = b4
 generalize nameOK m.name = b5
 generalize m.a.low = b6
 generalize m.b.low = b7
 generalize decide ((m.salt.l.length : Int) ≤ 16) = b8
 generalize decide ((m.sea.l.length : Int) ≤ 48) = b9
 generalize decide ((m.tag.l.length : Int) ≤ 16) = b10
 generalize decide ((m.tok.l.length : Int) ≤ 80) = b11
 generalize decide ((m.rcd.l.length : Int) ≤ 120) = b12
 generalize decide (0 ≤ m.channel) = b13
 generalize decide (0 ≤ m.e) = b14
 generalize decide (m.e ≤ 11) = b15
 cases b1
 ·exact ⟨rfl, rfl, Nat.zero_le _, rfl, rfl⟩
 cases b2
 rotate_left
 ·exact ⟨rfl, rfl, Nat.zero_le _, rfl, rfl⟩
 cases b3
 rotate_left
 ·exact ⟨rfl, rfl, Nat.zero_le _, rfl, rfl⟩
 cases b4
 ·cases b5
  ·exact ⟨hs, rfl, rfl, Nat.zero_le _, rfl, rfl⟩
  refine ⟨hs, ?_⟩
  cases b6
  ·exact ⟨rfl, rfl, Nat.zero_le _, rfl, rfl⟩
  cases b7
  ·exact ⟨rfl, rfl, Nat.zero_le _, rfl, rfl⟩
  cases b8
  ·exact ⟨rfl, rfl, Nat.zero_le _, rfl, rfl⟩
  cases b9
  ·exact ⟨rfl, rfl, Nat.zero_le _, rfl, rfl⟩
  cases b10
  ·exact ⟨rfl, rfl, Nat.zero_le _, rfl, rfl⟩
  cases b11
  ·exact ⟨rfl, rfl, Nat.zero_le _, rfl, rfl⟩
  cases b12
  ·exact ⟨rfl, rfl, Nat.zero_le _, rfl, rfl⟩
  cases b13
  ·exact ⟨rfl, rfl, Nat.zero_le _, rfl, rfl⟩
  cases b14
  ·exact ⟨rfl, rfl, Nat.zero_le _, rfl, rfl⟩
  exact ⟨rfl, rfl, Nat.zero_le _, rfl, rfl⟩
 ·-- no name
  cases b6
  ·exact ⟨rfl, rfl, Nat.zero_le _, rfl, rfl⟩
  cases b7
  ·exact ⟨rfl, rfl, Nat.zero_le _, rfl, rfl⟩
  cases b8
  ·exact ⟨rfl, rfl, Nat.zero_le _, rfl, rfl⟩
  cases b9
  ·exact ⟨rfl, rfl, Nat.zero_le _, rfl, rfl⟩
  cases b10
  ·exact ⟨rfl, rfl, Nat.zero_le _, rfl, rfl⟩
  cases b11
  ·exact ⟨rfl, rfl, Nat.zero_le _, rfl, rfl⟩
  cases b12
  ·exact ⟨rfl, rfl, Nat.zero_le _, rfl, rfl⟩
  cases b13
  ·exact ⟨rfl, rfl, Nat.zero_le _, rfl, rfl⟩
  cases b14
  ·exact ⟨rfl, rfl, Nat.zero_le _, rfl, rfl⟩
  exact ⟨rfl, rfl, Nat.zero_le _, rfl, rfl⟩
def e25 : SpE := ⟨true, ev1 msgD (fun m => some (m.name.length ≤ 1099511627776)) fun m => .bool m.rightR⟩
theorem ok25 : SpE.ok Try.prog 25 e25 := ev1_ok kMsg (fun _ => rfl) (fun m h => fn25 m h)

def Msg.bytesR (m : Msg) (n : Int) : By :=
 if n = 1 then ⟨false, [UInt8.ofInt m.proto]⟩ else if n = 2 then ⟨false, m.name⟩ else if n = 3 then ⟨false, be4 m.a.a0⟩ else if n = 4 then ⟨false, be4 m.b.a0⟩
 else if n = 5 then m.salt else if n = 6 then m.sea else if n = 7 then m.tag else if n = 8 then m.tok else if n = 9 then m.rcd else if n = 10 then ⟨false, eightTo m.channel 8⟩ else ⟨false, [UInt8.ofInt m.e]⟩
theorem fn48 (m : Msg) (n : Int) : ACalls Try.prog 48 [.agg m.C, .int n] [] (fun r h => r = (m.bytesR n).A ∧ h = []) := by
 refine ACalls.tell (K := fun r h => byD r = some (m.bytesR n) ∧ h = []) ?_ ?_
 ·refine o48.run (Γ := G0 keep48 [(65, e65), (66, e66)]) (own := false) (kn := 0) (.cons ok65 o65.enter (.cons ok66 o66.enter .nil)) (Nat.le_of_ble_eq_true rfl) rfl (Nat.le_refl _) ?_
  dsimp only [c48, keep48, res48, Msg.C, e65, e66, Num.eta, By.eta, go_sem, Nat.succ, Int.reduceToNat, Nat.reduceAdd, Nat.reduceMul, Nat.reduceSub, Int.reduceLT, Int.reduceLE, Int.reduceNeg, UInt64.reduceToNat, UInt32.reduceToNat, UInt8.reduceToNat]
  repeat' (refine fork_intro (fun h => ?_) (fun h => ?_))
  all_goals simp only [beq_iff_eq, beq_eq_false_iff_ne, ne_eq] at *
  all_goals and_intros
  all_goals first | trivial | rfl | omega | (refine congrArg some ?_; simp only [Msg.bytesR, *, Int.reduceEq, ↓reduceIte]; done)
 ·rintro r h1 ⟨h2, rfl⟩
  exact ⟨_, _, ⟨rfl, rfl⟩, byD_tell _ _ h2, TellH.refl _⟩
def e48 : SpE := ⟨true, ev2 msgD intD (fun _ _ => none) fun m n => (m.bytesR n).A⟩
theorem ok48 : SpE.ok Try.prog 48 e48 := ev2_ok kMsg kInt (fun _ _ => rfl) (fun m n _ => fn48 m n)
end Go.Abs

namespace Go.Proofs
open Go.RowKit Go.Shelf
attribute [local go_sem] Oper.semAt_some
set_option maxRecDepth 100000 in
set_option maxHeartbeats 2000000 in
theorem Try.values1_in (F : Fence) (n : Nat) (h7 : F.fn 85) (hro : F.round = none) (hn : 1 ≤ n) (l Bs b off len cap : Nat) (hreach : len * 8 ≤ 140737488351232) (zs : Nat → Int) (sa : Nat → Option Addr) (sn sc : Nat → Nat) (rs : Nat → Bool) (J Jx : Nat → World → Prop)
  (hJ : ∀ i W W', J i W → W.grownBy W' none → J i W')
  (hF : ∀ i W, J i W → W.cell? ⟨Bs, 0, none⟩ = some (.slice (some ⟨b, off, none⟩) len cap) ∧ ∀ j, j < len → W.cell? ⟨b, off + j * 3, none⟩ = some (.int .i64 (zs j)) ∧ W.cell? ⟨b, off + j * 3 + 1, none⟩ = some (.slice (sa j) (sn j) (sc j)) ∧ W.cell? ⟨b, off + j * 3 + 2, none⟩ = some (.bool (rs j)))
  (hY : ∀ i W, J i W → i < len → YieldAt F (n - 1) Try.prog l #[.agg #[.int .i64 (zs i), .slice (sa i) (sn i) (sc i), .bool (rs i)]] W fun e W' =>
    (e = .returned (.bool true) ∧ J (i + 1) W') ∨ (e = .returned (.bool false) ∧ Jx (i + 1) W'))
  (W : World) (h0 : J 0 W) :
  CallsIn F n Try.prog 85 #[.func (.yield l) #[] #[], .pointer (some ⟨Bs, 0, none⟩)] W fun e W' => (∃ v, e = .returned v) ∧ (J len W' ∨ ∃ i, i ≤ len ∧ Jx i W') := by
 refine callsIn_of_wp Try.func85 rfl h7 ?_ hro
 simp only [Try.ntmps85, List.size_toArray, List.length_cons, List.length_nil, Nat.reduceAdd, Nat.reduceSub, Array.replicate_succ, Array.replicate_zero, List.push_toArray, List.append_toArray, List.nil_append, List.cons_append]
 obtain ⟨hc0, hcs⟩ := hF 0 W h0
 gi_wp2
 gi_loopw [7] (fun i wr => ∃ k : Nat, k ≤ len ∧ i = .int .i64 k ∧ J k wr)
  (fun i _ => len - (intOf i).toNat)
 case atStart => exact ⟨0, Nat.zero_le _, rfl, h0⟩
 case round =>
  obtain ⟨k, hk, rfl, hJs⟩ := hrel
  obtain ⟨hd0, hds⟩ := hF k wr hJs
  by_cases hlt : k < len
  ·obtain ⟨q1, q2, q3⟩ := hds k hlt
   obtain ⟨fn, tmps, assign, body, hy, hR⟩ := hY k (wr.alloc (Obj.cells #[Value.int .i64 (zs k), Value.slice (sa k) (sn k) (sc k), Value.bool (rs k)] 75)) (hJ k wr _ hJs (World.grownBy_alloc wr _ none)) hlt
   gi_wp2
   refine hR.mono ?_
   rintro e W3 (⟨rfl, hJ3⟩ | ⟨rfl, hJx3⟩)
   ·gi_wp2
    go_roundw
    case rel => exact ⟨k + 1, by omega, by simp, hJ3⟩
    case measure => simp [intOf]; omega
   ·gi_wp2
    refine bodyPost_ret (results_none rfl _ _ _) rfl ?_
    exact ⟨⟨_, rfl⟩, .inr ⟨k + 1, by omega, hJx3⟩⟩
  ·obtain rfl : k = len := by omega
   gi_wp2
   go_end0
   exact ⟨⟨_, rfl⟩, .inl hJs⟩
end Go.Proofs

namespace Go.Proofs
open Go.RowKit Go.Shelf Go.Lib
set_option maxRecDepth 100000 in
set_option maxHeartbeats 2000000 in
theorem Try.grow78 (n : Nat) (hn : 0 < n) (hb : n ≤ 1099511627776) (w : World) : Calls Try.prog 78 #[.slice none 0 0, .int .i64 n] w fun e w' =>
  ∃ cap, e = .returned (.slice (some ⟨w.heap.size, 0, none⟩) 0 cap) ∧ ∃ cs, cs.size = cap ∧ w' = w.drew.alloc (.cells cs 5) := by
 have h1 : ¬ ((n : Int) < 0) := by omega
 have h4 : (n : Int) > 0 := by omega
 have hw : wrap64 (n : Int) = n := by unfold wrap64; omega
 have hi : Try.prog.info? 5 = some Try.t5 := by kernel_rfl
 have hz : Try.t5.zero = some (.int .u8 0) := by kernel_rfl
 have hs : Try.t5.size = 1 := by kernel_rfl
 have hby : Try.t5.bytes = 1 := by kernel_rfl
 have h5 : ¬ (281474976710656 < (n : Int) * (Try.t5.bytes : Int)) := by rw [hby]; omega
 have h6 : ¬ (9223372036854775807 < (n : Int)) := by omega
 have h7 : ¬ (281474976710656 < Builtin.nextslicecap n 0 * Try.t5.bytes) := by have := growslice_fits (need := n) (old := 0) (bytes := Try.t5.bytes) hn (by rw [hby]; omega); omega
 have h8 : ¬ (n = 0) := by omega
 go_enter Try.func78, Try.ntmps78
 go_wp2
 all_goals first
  | (go_ret
     refine ⟨_, rfl, _, ?_, rfl⟩
     have hg : n ≤ (Question.appendCap n 0 5).cut (w.tape w.drawn (Question.appendCap n 0 5)) := grownCap_ge w n 0 5
     simp only [Array.size_append, size_zeroCells]
     simp
     omega)
  | (exfalso; simp only [hby] at *; omega)
  | skip
end Go.Proofs

namespace Go.Abs
open Go.Proofs
set_option maxRecDepth 100000

def fieldB (l : List UInt8) (k : Int) (x : List UInt8) : List UInt8 := l ++ [UInt8.ofInt k, UInt8.ofInt (x.length : Int)] ++ x
theorem fn47 (l : List UInt8) (k : Int) (x : By) (h1 : 0 < l.length) (h2 : l.length + x.l.length ≤ 1099511627776) :
  ACalls Try.prog 47 [.ms false 0 0 0 l.length 1, .int k, x.A] [⟨0, .ab l, false⟩] (fun r h => r = .ms false 0 2 0 (l.length + 2 + x.l.length) 1 ∧ h = [⟨2, .ab (fieldB l k x.l), false⟩]) := by
 refine o47.run (Γ := GK 1 keep47 []) (own := true) (kn := 1) .nil (Nat.le_of_ble_eq_true rfl) rfl (Nat.le_refl _) ?_
 dsimp only [c47, keep47, res47, go_sem, Nat.succ, Int.reduceToNat, Nat.reduceAdd, Nat.reduceMul, Nat.reduceSub, Int.reduceLT, Int.reduceLE, Int.reduceNeg, UInt64.reduceToNat, UInt32.reduceToNat, UInt8.reduceToNat]
 have t1 : l.take (l.length * l.length) = l := take_all (.inl (by omega))
 rw [t1]
 have t2 : (l ++ [UInt8.ofInt k, UInt8.ofInt (x.l.length : Int)]).take ((l.length + 2) * (l ++ [UInt8.ofInt k, UInt8.ofInt (x.l.length : Int)]).length) = l ++ [UInt8.ofInt k, UInt8.ofInt (x.l.length : Int)] := take_all (.inl (by omega))
 rw [t2]
 refine ⟨⟨rfl, by omega⟩, ⟨by simp, by omega⟩, rfl, rfl⟩
def e47 : SpE := ⟨false, fun xs h => match xs with
 | [.ms false i e o n sz, .int k, b] => match Nat.beq e 0 with
   | true => match Nat.beq o 0 with
     | true => match Nat.beq sz 1 with
       | true => match hget h i with
         | some ob => match Nat.beq ob.ep 0 with
           | true => match ob.fz with
             | false => match ob.c with
               | .ab l => match byD b with
                 | some x => .e (some (n = l.length ∧ 0 < l.length ∧ l.length + x.l.length ≤ 1099511627776)) (.ms false i 2 0 (l.length + 2 + x.l.length) 1) (hset h i ⟨2, .ab (fieldB l k x.l), false⟩)
                 | none => .no
               | _ => .no
             | true => .no
           | false => .no
         | none => .no
       | false => .no
     | false => .no
   | false => .no
 | _ => .no⟩
theorem ok47 : SpE.ok Try.prog 47 e47 := by
 intro args h
 unfold e47
 simp only
 split
 ·rename_i C A he; (repeat' split at he) <;> cases he
 ·rename_i C A h1 he
  split at he
  ·rename_i i e o n sz k b
   split at he
   ·rename_i b1
    split at he
    ·rename_i b2
     split at he
     ·rename_i b3
      split at he
      ·rename_i ob hob
       split at he
       ·rename_i b4
        split at he
        ·rename_i hfz
         split at he
         ·rename_i l hc
          split at he
          ·rename_i x hx
           cases he
           obtain rfl := Nat.eq_of_beq_eq_true b1
           obtain rfl := Nat.eq_of_beq_eq_true b2
           obtain rfl := Nat.eq_of_beq_eq_true b3
           have b4 := Nat.eq_of_beq_eq_true b4
           obtain ⟨ep, c, fz⟩ := ob
           simp only at b4 hfz hc
           subst b4 hfz hc
           rintro ⟨rfl, k2, k3⟩
           refine ACalls.said (args' := [.ms false i 0 0 l.length 1, .int k, x.A]) ⟨Tell.refl _, Tell.refl _, byD_tell _ _ hx, trivial⟩ ?_
           exact acalls_obj (args1 := [.ms false 0 0 0 l.length 1, .int k, x.A]) (R1 := .ms false 0 2 0 (l.length + 2 + x.l.length) 1) (o := ⟨0, .ab l, false⟩)
            (fun ρ hρ => by simp only [renL, ren, hρ, By.A]) (fun ρ hρ => by simp only [ren, hρ]) hob rfl rfl (fn47 l k x k2 k3)
          ·cases he
         ·cases he
        ·cases he
       ·cases he
      ·cases he
     ·cases he
    ·cases he
   ·cases he
  ·cases he
 ·rename_i C h1 he; (repeat' split at he) <;> cases he
 ·trivial

def Msg.encTo (m : Msg) : Nat → List UInt8
 | 0 => [UInt8.ofInt m.kind]
 | i + 1 => match m.has (i + 1) with
   | true => fieldB (m.encTo i) (ilit (i + 1)) (m.bytesR (ilit (i + 1))).l
   | false => m.encTo i
theorem Msg.encTo_pos (m : Msg) : ∀ i, 0 < (m.encTo i).length
 | 0 => by simp [Msg.encTo]
 | i + 1 => by
   have := m.encTo_pos i
   simp only [Msg.encTo]
   split
   ·simp only [fieldB, List.length_append]; omega
   ·exact this
theorem nameOK_len {s : List UInt8} (h : nameOK s = true) : s.length ≤ 16 := by
 simp only [nameOK, Bool.and_eq_true, decide_eq_true_eq] at h
 exact h.2.1
theorem eight_len (n : Int) : (eightTo n 8).length = 8 := eightTo_len n 8
theorem Msg.bytesR_le (m : Msg) (h : m.rightR = true) (n : Int) : (m.bytesR n).l.length ≤ 120 := by
 simp only [Msg.rightR, Msg.okR, Bool.and_eq_true, Bool.or_eq_true, decide_eq_true_eq, beq_iff_eq] at h
 obtain ⟨_, _, _, hn, _, _, h1, h2, h3, h4, h5, _⟩ := h
 have hn : m.name.length ≤ 16 := by
  rcases hn with hn | hn
  ·rw [hn]; simp
  ·exact nameOK_len hn
 unfold Msg.bytesR
 have e8 := eight_len m.channel
 repeat' split
 all_goals first | (show (be4 _).length ≤ 120; simp [be4]; done) | (simp only [e8]; omega) | (simp; done) | (simp; omega) | omega
theorem Msg.encTo_le (m : Msg) (h : m.rightR = true) : ∀ i, (m.encTo i).length ≤ 1 + 122 * i
 | 0 => by simp [Msg.encTo]
 | i + 1 => by
   have := m.encTo_le h i
   have hb := m.bytesR_le h (ilit (i + 1))
   simp only [Msg.encTo]
   split
   ·simp only [fieldB, List.length_append, List.length_cons, List.length_nil]; omega
   ·omega
theorem there_test (m : Msg) : ∀ i n, (m.thereTo i).testBit n = (decide (n < i) && m.has n)
 | 0, n => by simp [Msg.thereTo]
 | i + 1, n => by
   have ih := there_test m i n
   have hlt := m.thereTo_lt i
   simp only [Msg.thereTo, bit1]
   cases hh : m.has i with
   | false =>
     simp only [Nat.add_zero, ih]
     by_cases e : n = i
     ·subst e; simp [hh]
     ·rw [show decide (n < i + 1) = decide (n < i) from decide_eq_decide.2 (by omega)]
   | true =>
     have := Nat.two_pow_add_eq_or_of_lt hlt 1
     simp only [Nat.mul_one] at this
     rw [Nat.add_comm, this, Nat.testBit_or, ih, Nat.testBit_two_pow]
     by_cases e : n = i
     ·subst e; simp [hh]
     ·rw [show decide (n < i + 1) = decide (n < i) from decide_eq_decide.2 (by omega), show decide (i = n) = false from decide_eq_false (fun h => e h.symm)]; simp
theorem iand_one {k : Nat} (h : k < 2 ^ 63) : iand (k : Int) 1 = ((k % 2 : Nat) : Int) := by
 have e : (BitVec.ofInt 64 (k : Int) &&& BitVec.ofInt 64 1).toNat = k % 2 := by
  rw [BitVec.toNat_and, BitVec.ofInt_natCast, BitVec.toNat_ofNat, Nat.mod_eq_of_lt (by omega)]
  exact Nat.and_one_is_mod k
 rw [iand, e, wr64 (by omega)]
theorem there_bit (m : Msg) (n : Nat) (hn : n < 12) : decide (0 < iand ((m.thereTo 12 : Int) / 2 ^ min (UInt64.ofInt (ilit n)).toNat 64) 1) = m.has n := by
 have hlt := m.thereTo_lt 12
 have hle : m.thereTo 12 / 2 ^ n ≤ m.thereTo 12 := Nat.div_le_self _ _
 have e0 : (m.thereTo 12 : Int) / 2 ^ n = ((m.thereTo 12 / 2 ^ n : Nat) : Int) := by simp
 rw [ilit_eq, u64_small (by omega), show min n 64 = n by omega, e0, iand_one (by omega)]
 have := there_test m 12 n
 rw [Nat.testBit_eq_decide_div_mod_eq, show decide (n < 12) = true from decide_eq_true hn, Bool.true_and] at this
 rw [← this]
 exact decide_eq_decide.2 (by omega)
def Msg.outR (m : Msg) : By := match m.rightR && decide ((m.encTo 11).length ≤ 200) with
 | true => ⟨false, [UInt8.ofInt (((m.encTo 11).length : Int) / 2 ^ 8), UInt8.ofInt ((m.encTo 11).length : Int)] ++ m.encTo 11⟩
 | false => ⟨true, []⟩
def Msg.isR (m : Msg) : Bool := m.rightR && decide ((m.encTo 11).length ≤ 200)
def L18 (m : Msg) : LI where
 X := Nat
 x0 := 0
 pre i := i ≤ 11
 inv i := ([(1, .ptr 0 0 0), (4, .ms false 1 0 0 (m.encTo i).length 1), (5, .int (ilit (i + 1)))], [⟨0, .agg m.C, false⟩, ⟨0, .ab (m.encTo i), false⟩])
 mu i := 12 - i
 ren := true
 fin := some [0, 1, 2, 3, 4, 5, 6, 7, 8, 9, 10, 11]
set_option maxHeartbeats 4000000 in
theorem fn18 (m : Msg) (hs : m.name.length ≤ 1099511627776) : ACalls Try.prog 18 [.agg m.C] [] (fun r h => r = .tup [m.outR.A, .bool m.isR] ∧ h = []) := by
 refine ACalls.tell (K := fun r h => (∃ a, r = .tup [a, .bool m.isR] ∧ byD a = some m.outR) ∧ h = []) ?_ ?_
 ·refine o18.run (Γ := GL keep18 [(25, e25), (46, e46), (47, e47), (48, e48)] fun _ => L18 m) (own := false) (kn := 0) (.cons ok25 o25.enter (.cons ok46 o46.enter (.cons ok47 o47.enter (.cons ok48 o48.enter .nil)))) (Nat.le_of_ble_eq_true rfl) rfl (Nat.le_refl _) ?_
  dsimp only [c18, keep18, res18, L18, Msg.C, msgD, ilit, e25, e46, e47, e48, Num.eta, By.eta, Msg.eta, go_sem, Nat.succ, Int.reduceToNat, Nat.reduceAdd, Nat.reduceMul, Nat.reduceSub, Int.reduceLT, Int.reduceLE, Int.reduceNeg, UInt64.reduceToNat, UInt32.reduceToNat, UInt8.reduceToNat]
  refine ⟨hs, fork_intro (fun h => ?_) (fun h => ?_)⟩
  ·have h : m.rightR = false := by simpa using h
   exact ⟨rfl, rfl, Nat.zero_le _, ⟨.sl true 0 0 (.agg []) true, by rw [Msg.isR, h]; rfl, by rw [Msg.outR, h]; rfl⟩, rfl⟩
  have hr : m.rightR = true := by simpa using h
  have key : ∀ i, i < 11 → m.has (i + 1) = true → (m.encTo i).length + 2 + (m.bytesR (ilit (i + 1))).l.length = (m.encTo (i + 1)).length ∧ fieldB (m.encTo i) (ilit (i + 1)) (m.bytesR (ilit (i + 1))).l = m.encTo (i + 1) := fun i _ hh => by
   have e : m.encTo (i + 1) = fieldB (m.encTo i) (ilit (i + 1)) (m.bytesR (ilit (i + 1))).l := by rw [Msg.encTo, hh]
   rw [e]
   exact ⟨by simp only [fieldB, List.length_append, List.length_cons, List.length_nil], rfl⟩
  have key0 : ∀ i, m.has (i + 1) = false → m.encTo (i + 1) = m.encTo i := fun i hh => by rw [Msg.encTo, hh]
  have hle := m.encTo_le hr
  have hbl := m.bytesR_le hr
  have hpos := m.encTo_pos
  refine ⟨⟨?_, by omega⟩, fun x hx => ?_, ?_⟩
  ·refine ⟨[some 0, some 1], by first | rfl | trivial, ?_, by first | rfl | trivial, ?_⟩ <;> exact rn
  ·have : x < 12 := by omega
   rcases x with _ | _ | _ | _ | _ | _ | _ | _ | _ | _ | _ | _ | x <;> first | (simp; done) | omega
  refine ⟨?_, ?_, ?_, ?_, ?_, ?_, ?_, ?_, ?_, ?_, ?_, ?_, trivial⟩
  ·refine fork_intro (fun _ => fork_intro (fun h => ?_) (fun h => ?_)) (fun h => by cases h)
   ·have hb : m.has 1 = true := (there_bit m 1 (by omega)).symm.trans h
    obtain ⟨q1, q2⟩ := key 0 (by omega) hb
    have := hle 0; have := hbl 1; have := hpos 0
    refine ⟨⟨rfl, by omega, by omega⟩, 1, by omega, by omega, ?_⟩
    simp only [ilit, Nat.reduceAdd] at q1 q2
    rw [q1, q2]
    refine ⟨[some 0, some 1], by first | rfl | trivial, ?_, by first | rfl | trivial, ?_⟩ <;> exact rn
   ·have hb : m.has 1 = false := (there_bit m 1 (by omega)).symm.trans h
    have q := key0 0 hb
    refine ⟨1, by omega, by omega, ?_⟩
    simp only [Nat.reduceAdd] at q
    rw [q]
    refine ⟨[some 0, some 1], by first | rfl | trivial, ?_, by first | rfl | trivial, ?_⟩ <;> exact rn
  ·refine fork_intro (fun _ => fork_intro (fun h => ?_) (fun h => ?_)) (fun h => by cases h)
   ·have hb : m.has 2 = true := (there_bit m 2 (by omega)).symm.trans h
    obtain ⟨q1, q2⟩ := key 1 (by omega) hb
    have := hle 1; have := hbl 2; have := hpos 1
    refine ⟨⟨rfl, by omega, by omega⟩, 2, by omega, by omega, ?_⟩
    simp only [ilit, Nat.reduceAdd] at q1 q2
    rw [q1, q2]
    refine ⟨[some 0, some 1], by first | rfl | trivial, ?_, by first | rfl | trivial, ?_⟩ <;> exact rn
   ·have hb : m.has 2 = false := (there_bit m 2 (by omega)).symm.trans h
    have q := key0 1 hb
    refine ⟨2, by omega, by omega, ?_⟩
    simp only [Nat.reduceAdd] at q
    rw [q]
    refine ⟨[some 0, some 1], by first | rfl | trivial, ?_, by first | rfl | trivial, ?_⟩ <;> exact rn
  ·refine fork_intro (fun _ => fork_intro (fun h => ?_) (fun h => ?_)) (fun h => by cases h)
   ·have hb : m.has 3 = true := (there_bit m 3 (by omega)).symm.trans h
    obtain ⟨q1, q2⟩ := key 2 (by omega) hb
    have := hle 2; have := hbl 3; have := hpos 2
    refine ⟨⟨rfl, by omega, by omega⟩, 3, by omega, by omega, ?_⟩
    simp only [ilit, Nat.reduceAdd] at q1 q2
    rw [q1, q2]
    refine ⟨[some 0, some 1], by first | rfl | trivial, ?_, by first | rfl | trivial, ?_⟩ <;> exact rn
   ·have hb : m.has 3 = false := (there_bit m 3 (by omega)).symm.trans h
    have q := key0 2 hb
    refine ⟨3, by omega, by omega, ?_⟩
    simp only [Nat.reduceAdd] at q
    rw [q]
    refine ⟨[some 0, some 1], by first | rfl | trivial, ?_, by first | rfl | trivial, ?_⟩ <;> exact rn
  ·refine fork_intro (fun _ => fork_intro (fun h => ?_) (fun h => ?_)) (fun h => by cases h)
   ·have hb : m.has 4 = true := (there_bit m 4 (by omega)).symm.trans h
    obtain ⟨q1, q2⟩ := key 3 (by omega) hb
    have := hle 3; have := hbl 4; have := hpos 3
    refine ⟨⟨rfl, by omega, by omega⟩, 4, by omega, by omega, ?_⟩
    simp only [ilit, Nat.reduceAdd] at q1 q2
    rw [q1, q2]
    refine ⟨[some 0, some 1], by first | rfl | trivial, ?_, by first | rfl | trivial, ?_⟩ <;> exact rn
   ·have hb : m.has 4 = false := (there_bit m 4 (by omega)).symm.trans h
    have q := key0 3 hb
    refine ⟨4, by omega, by omega, ?_⟩
    simp only [Nat.reduceAdd] at q
    rw [q]
    refine ⟨[some 0, some 1], by first | rfl | trivial, ?_, by first | rfl | trivial, ?_⟩ <;> exact rn
  ·refine fork_intro (fun _ => fork_intro (fun h => ?_) (fun h => ?_)) (fun h => by cases h)
   ·have hb : m.has 5 = true := (there_bit m 5 (by omega)).symm.trans h
    obtain ⟨q1, q2⟩ := key 4 (by omega) hb
    have := hle 4; have := hbl 5; have := hpos 4
    refine ⟨⟨rfl, by omega, by omega⟩, 5, by omega, by omega, ?_⟩
    simp only [ilit, Nat.reduceAdd] at q1 q2
    rw [q1, q2]
    refine ⟨[some 0, some 1], by first | rfl | trivial, ?_, by first | rfl | trivial, ?_⟩ <;> exact rn
   ·have hb : m.has 5 = false := (there_bit m 5 (by omega)).symm.trans h
    have q := key0 4 hb
    refine ⟨5, by omega, by omega, ?_⟩
    simp only [Nat.reduceAdd] at q
    rw [q]
    refine ⟨[some 0, some 1], by first | rfl | trivial, ?_, by first | rfl | trivial, ?_⟩ <;> exact rn
  ·refine fork_intro (fun _ => fork_intro (fun h => ?_) (fun h => ?_)) (fun h => by cases h)
   ·have hb : m.has 6 = true := (there_bit m 6 (by omega)).symm.trans h
    obtain ⟨q1, q2⟩ := key 5 (by omega) hb
    have := hle 5; have := hbl 6; have := hpos 5
    refine ⟨⟨rfl, by omega, by omega⟩, 6, by omega, by omega, ?_⟩
    simp only [ilit, Nat.reduceAdd] at q1 q2
    rw [q1, q2]
    refine ⟨[some 0, some 1], by first | rfl | trivial, ?_, by first | rfl | trivial, ?_⟩ <;> exact rn
   ·have hb : m.has 6 = false := (there_bit m 6 (by omega)).symm.trans h
    have q := key0 5 hb
    refine ⟨6, by omega, by omega, ?_⟩
    simp only [Nat.reduceAdd] at q
    rw [q]
    refine ⟨[some 0, some 1], by first | rfl | trivial, ?_, by first | rfl | trivial, ?_⟩ <;> exact rn
  ·refine fork_intro (fun _ => fork_intro (fun h => ?_) (fun h => ?_)) (fun h => by cases h)
   ·have hb : m.has 7 = true := (there_bit m 7 (by omega)).symm.trans h
    obtain ⟨q1, q2⟩ := key 6 (by omega) hb
    have := hle 6; have := hbl 7; have := hpos 6
    refine ⟨⟨rfl, by omega, by omega⟩, 7, by omega, by omega, ?_⟩
    simp only [ilit, Nat.reduceAdd] at q1 q2
    rw [q1, q2]
    refine ⟨[some 0, some 1], by first | rfl | trivial, ?_, by first | rfl | trivial, ?_⟩ <;> exact rn
   ·have hb : m.has 7 = false := (there_bit m 7 (by omega)).symm.trans h
    have q := key0 6 hb
    refine ⟨7, by omega, by omega, ?_⟩
    simp only [Nat.reduceAdd] at q
    rw [q]
    refine ⟨[some 0, some 1], by first | rfl | trivial, ?_, by first | rfl | trivial, ?_⟩ <;> exact rn
  ·refine fork_intro (fun _ => fork_intro (fun h => ?_) (fun h => ?_)) (fun h => by cases h)
   ·have hb : m.has 8 = true := (there_bit m 8 (by omega)).symm.trans h
    obtain ⟨q1, q2⟩ := key 7 (by omega) hb
    have := hle 7; have := hbl 8; have := hpos 7
    refine ⟨⟨rfl, by omega, by omega⟩, 8, by omega, by omega, ?_⟩
    simp only [ilit, Nat.reduceAdd] at q1 q2
    rw [q1, q2]
    refine ⟨[some 0, some 1], by first | rfl | trivial, ?_, by first | rfl | trivial, ?_⟩ <;> exact rn
   ·have hb : m.has 8 = false := (there_bit m 8 (by omega)).symm.trans h
    have q := key0 7 hb
    refine ⟨8, by omega, by omega, ?_⟩
    simp only [Nat.reduceAdd] at q
    rw [q]
    refine ⟨[some 0, some 1], by first | rfl | trivial, ?_, by first | rfl | trivial, ?_⟩ <;> exact rn
  ·refine fork_intro (fun _ => fork_intro (fun h => ?_) (fun h => ?_)) (fun h => by cases h)
   ·have hb : m.has 9 = true := (there_bit m 9 (by omega)).symm.trans h
    obtain ⟨q1, q2⟩ := key 8 (by omega) hb
    have := hle 8; have := hbl 9; have := hpos 8
    refine ⟨⟨rfl, by omega, by omega⟩, 9, by omega, by omega, ?_⟩
    simp only [ilit, Nat.reduceAdd] at q1 q2
    rw [q1, q2]
    refine ⟨[some 0, some 1], by first | rfl | trivial, ?_, by first | rfl | trivial, ?_⟩ <;> exact rn
   ·have hb : m.has 9 = false := (there_bit m 9 (by omega)).symm.trans h
    have q := key0 8 hb
    refine ⟨9, by omega, by omega, ?_⟩
    simp only [Nat.reduceAdd] at q
    rw [q]
    refine ⟨[some 0, some 1], by first | rfl | trivial, ?_, by first | rfl | trivial, ?_⟩ <;> exact rn
  ·refine fork_intro (fun _ => fork_intro (fun h => ?_) (fun h => ?_)) (fun h => by cases h)
   ·have hb : m.has 10 = true := (there_bit m 10 (by omega)).symm.trans h
    obtain ⟨q1, q2⟩ := key 9 (by omega) hb
    have := hle 9; have := hbl 10; have := hpos 9
    refine ⟨⟨rfl, by omega, by omega⟩, 10, by omega, by omega, ?_⟩
    simp only [ilit, Nat.reduceAdd] at q1 q2
    rw [q1, q2]
    refine ⟨[some 0, some 1], by first | rfl | trivial, ?_, by first | rfl | trivial, ?_⟩ <;> exact rn
   ·have hb : m.has 10 = false := (there_bit m 10 (by omega)).symm.trans h
    have q := key0 9 hb
    refine ⟨10, by omega, by omega, ?_⟩
    simp only [Nat.reduceAdd] at q
    rw [q]
    refine ⟨[some 0, some 1], by first | rfl | trivial, ?_, by first | rfl | trivial, ?_⟩ <;> exact rn
  ·refine fork_intro (fun _ => fork_intro (fun h => ?_) (fun h => ?_)) (fun h => by cases h)
   ·have hb : m.has 11 = true := (there_bit m 11 (by omega)).symm.trans h
    obtain ⟨q1, q2⟩ := key 10 (by omega) hb
    have := hle 10; have := hbl 11; have := hpos 10
    refine ⟨⟨rfl, by omega, by omega⟩, 11, by omega, by omega, ?_⟩
    simp only [ilit, Nat.reduceAdd] at q1 q2
    rw [q1, q2]
    refine ⟨[some 0, some 1], by first | rfl | trivial, ?_, by first | rfl | trivial, ?_⟩ <;> exact rn
   ·have hb : m.has 11 = false := (there_bit m 11 (by omega)).symm.trans h
    have q := key0 10 hb
    refine ⟨11, by omega, by omega, ?_⟩
    simp only [Nat.reduceAdd] at q
    rw [q]
    refine ⟨[some 0, some 1], by first | rfl | trivial, ?_, by first | rfl | trivial, ?_⟩ <;> exact rn
  ·refine fork_intro (fun h => by cases h) (fun _ => ?_)
   have hl := hle 11
   have hp := hpos 11
   refine fork_intro (fun h2 => ?_) (fun h2 => ?_)
   ·have h2 := of_decide_eq_true h2
    have e : (m.rightR && decide ((m.encTo 11).length ≤ 200)) = false := by rw [hr, decide_eq_false (by omega)]; rfl
    exact ⟨rfl, rfl, Nat.zero_le _, ⟨.sl true 0 0 (.agg []) true, by rw [Msg.isR, e], by rw [Msg.outR, e]⟩, rfl⟩
   ·have h2 := of_decide_eq_false h2
    have e : (m.rightR && decide ((m.encTo 11).length ≤ 200)) = true := by rw [hr, decide_eq_true (by omega)]; rfl
    have t1 : (m.encTo 11).take (m.encTo 11).length = m.encTo 11 := List.take_length
    have t2 : ([UInt8.ofInt (((m.encTo 11).length : Int) / 2 ^ min 8 64), UInt8.ofInt ((m.encTo 11).length : Int)] ++ m.encTo 11).take (2 + (m.encTo 11).length) = [UInt8.ofInt (((m.encTo 11).length : Int) / 2 ^ min 8 64), UInt8.ofInt ((m.encTo 11).length : Int)] ++ m.encTo 11 :=
     List.take_of_length_le (by first | (simp; done) | (simp; omega))
    simp only [List.drop_zero, t1, t2]
    refine ⟨⟨by omega, by omega, by omega⟩, by first | (simp; done) | (simp; omega), by first | rfl | trivial, by first | rfl | trivial, by first | trivial | exact Nat.zero_le _, ⟨_, by rw [Msg.isR, e], ?_⟩, by first | rfl | trivial⟩
    simp only [Msg.outR, e]; rfl
 ·rintro r h1 ⟨⟨a, rfl, h2⟩, rfl⟩
  exact ⟨_, _, ⟨rfl, rfl⟩, Tell.tup ⟨byD_tell _ _ h2, Tell.refl _, trivial⟩, TellH.refl _⟩
def e18 : SpE := ⟨true, ev1 msgD (fun m => some (m.name.length ≤ 1099511627776)) fun m => .tup [m.outR.A, .bool m.isR]⟩
theorem ok18 : SpE.ok Try.prog 18 e18 := ev1_ok kMsg (fun _ => rfl) (fun m h => fn18 m h)
open Go.Proofs
set_option maxRecDepth 100000

theorem iter85 : FdIter Try.prog 85 := fun l Bs b off len cap hr zs sa sn sc rs J Jx hJ hF hY W h0 =>
 callsIn_any (ro := none) (n := 1) (Try.values1_in (Fw none) 1 Fw_fn Fw_round (Nat.le_refl _) l Bs b off len cap hr zs sa sn sc rs J Jx hJ hF hY W h0)

theorem fn77 (n : Nat) (c : AV) (fl : Bool) (hc : below 0 c = true) : ACalls Try.prog 77 [.sl false n 3 c fl] [] (fun r h => r = .fn 85 [.ptr 0 0 0] ∧ h = [⟨0, .agg [.sl false n 3 c fl], false⟩]) := by
 refine o77.run (Γ := G0 keep77 []) (own := true) (kn := 1) .nil (Nat.le_of_ble_eq_true rfl) rfl (Nat.zero_le _) ?_
 dsimp only [c77, keep77, res77, go_sem, Nat.succ, Int.reduceToNat, Nat.reduceAdd, Nat.reduceMul, Nat.reduceSub, Int.reduceLT, Int.reduceLE, Int.reduceNeg, UInt64.reduceToNat, UInt32.reduceToNat, UInt8.reduceToNat]
 exact ⟨rfl, rfl⟩
def e77 : SpE := ⟨true, fun xs h => match xs with
 | [.sl false n sz c fl] => match Nat.beq sz 3 with
   | true => match below 0 c with
     | true => .e none (.fn 85 [.ptr (hlen h) 0 0]) (hsnoc h ⟨0, .agg [.sl false n 3 c fl], false⟩)
     | false => .no
   | false => .no
 | _ => .no⟩
theorem ok77 : SpE.ok Try.prog 77 e77 := by
 intro args h
 unfold e77
 simp only
 split
 ·rename_i C A he; (repeat' split at he) <;> cases he
 ·rename_i C A h1 he
  split at he
  ·rename_i n sz c fl
   split at he
   ·rename_i b1
    split at he
    ·rename_i hc
     cases he
     obtain rfl := Nat.eq_of_beq_eq_true b1
     intro _
     have := acalls_more (P := Try.prog) (f := 77) (args := [.sl false n 3 c fl]) (by simp [belowL, below, hc]) (by simp [below, belowL, hc]) (fn77 n c fl hc) h
     rw [hlen_eq, hsnoc_eq]
     simp only [ren, renL, rho, List.getElem?_nil, List.length_nil, Nat.sub_zero, Nat.add_zero] at this
     exact this
    ·cases he
   ·cases he
  ·cases he
 ·rename_i C h1 he; (repeat' split at he) <;> cases he
 ·trivial

def Msg.ok1 (m : Msg) : Bool := decide (0 ≤ m.proto) && decide (m.proto ≤ 2)
def Msg.ok2 (m : Msg) : Bool := m.name == [] || nameOK m.name
def Msg.fdC (m : Msg) : List AV := [.int 1, (wholeB m.proto 1).A, .bool m.ok1, .int 2, By.A ⟨false, m.name⟩, .bool m.ok2, .int 3, (fourB m.a).A, .bool m.a.low, .int 4, (fourB m.b).A, .bool m.b.low,
 .int 5, m.salt.A, .bool (decide ((m.salt.l.length : Int) ≤ 16)), .int 6, m.sea.A, .bool (decide ((m.sea.l.length : Int) ≤ 48)), .int 7, m.tag.A, .bool (decide ((m.tag.l.length : Int) ≤ 16)),
 .int 8, m.tok.A, .bool (decide ((m.tok.l.length : Int) ≤ 80)), .int 9, m.rcd.A, .bool (decide ((m.rcd.l.length : Int) ≤ 120)), .int 10, (wholeB m.channel 8).A, .bool (decide (0 ≤ m.channel)),
 .int 11, (wholeB m.e 1).A, .bool (decide (0 ≤ m.e) && decide (m.e ≤ 11))]
set_option maxHeartbeats 4000000 in
theorem fn44 (m : Msg) : ACalls Try.prog 44 [.agg m.C] [] (fun r h => r = .fn 85 [.ptr 2 0 0] ∧ h = [⟨0, .agg m.C, false⟩, ⟨0, .agg m.fdC, true⟩, ⟨0, .agg [.sl false 11 3 (.agg m.fdC) false], false⟩]) := by
 refine o44.run (Γ := G0 keep44 [(60, e60), (73, e73), (74, e74), (75, e75), (76, e76), (77, e77)]) (own := true) (kn := 3) (.cons ok60 o60.enter (.cons ok73 o73.enter (.cons ok74 o74.enter (.cons ok75 o75.enter (.cons ok76 o76.enter (.cons ok77 o77.enter .nil)))))) (Nat.le_of_ble_eq_true rfl) rfl (Nat.zero_le _) ?_
 dsimp only [c44, keep44, res44, Msg.C, e60, e73, e74, e75, e76, e77, Num.eta, By.eta, go_sem, Nat.succ, Int.reduceToNat, Nat.reduceAdd, Nat.reduceMul, Nat.reduceSub, Int.reduceLT, Int.reduceLE, Int.reduceNeg, UInt64.reduceToNat, UInt32.reduceToNat, UInt8.reduceToNat]
 have leaf : ∀ {p1 p2 p3 : Bool}, decide (0 ≤ m.proto) = p1 → decide (0 ≤ m.e) = p2 → (m.name == []) = p3 →
   m.fdC = [.int 1, (wholeB m.proto 1).A, .bool (p1 && decide (m.proto ≤ 2)), .int 2, By.A ⟨false, m.name⟩, .bool (p3 || nameOK m.name), .int 3, (fourB m.a).A, .bool m.a.low, .int 4, (fourB m.b).A, .bool m.b.low,
    .int 5, m.salt.A, .bool (decide ((m.salt.l.length : Int) ≤ 16)), .int 6, m.sea.A, .bool (decide ((m.sea.l.length : Int) ≤ 48)), .int 7, m.tag.A, .bool (decide ((m.tag.l.length : Int) ≤ 16)),
    .int 8, m.tok.A, .bool (decide ((m.tok.l.length : Int) ≤ 80)), .int 9, m.rcd.A, .bool (decide ((m.rcd.l.length : Int) ≤ 120)), .int 10, (wholeB m.channel 8).A, .bool (decide (0 ≤ m.channel)),
    .int 11, (wholeB m.e 1).A, .bool (p2 && decide (m.e ≤ 11))] := fun h1 h2 h3 => by subst h1 h2 h3; rfl
 refine ⟨by omega, fork_intro (fun h1 => ⟨by omega, by omega, fork_intro (fun h2 => fork_intro (fun h3 => ⟨by omega, rfl, ?_⟩) (fun h3 => ⟨by omega, rfl, ?_⟩)) (fun h2 => fork_intro (fun h3 => ⟨by omega, rfl, ?_⟩) (fun h3 => ⟨by omega, rfl, ?_⟩))⟩)
  (fun h1 => ⟨by omega, by omega, fork_intro (fun h2 => fork_intro (fun h3 => ⟨by omega, rfl, ?_⟩) (fun h3 => ⟨by omega, rfl, ?_⟩)) (fun h2 => fork_intro (fun h3 => ⟨by omega, rfl, ?_⟩) (fun h3 => ⟨by omega, rfl, ?_⟩))⟩)⟩ <;>
 ·rw [leaf h1 h2 h3]; rfl
def e44 : SpE := ⟨true, fun xs h => match xs with
 | [a] => match msgD a with
   | some m => .e none (.fn 85 [.ptr (hlen h + 2) 0 0]) (hsnoc (hsnoc (hsnoc h ⟨0, .agg m.C, false⟩) ⟨0, .agg m.fdC, true⟩) ⟨0, .agg [.sl false 11 3 (.agg m.fdC) false], false⟩)
   | none => .no
 | _ => .no⟩
theorem ok44 : SpE.ok Try.prog 44 e44 := by
 intro args h
 unfold e44
 simp only
 split
 ·rename_i C A he; (repeat' split at he) <;> cases he
 ·rename_i C A h1 he
  split at he
  ·rename_i a
   split at he
   ·rename_i m hm
    cases he
    intro _
    have := acalls_more (P := Try.prog) (f := 44) (args := [.agg m.C]) rfl (by intro o ho; simp at ho; rcases ho with rfl | rfl | rfl <;> rfl) (fn44 m) h
    refine ACalls.said (args' := [.agg m.C]) ⟨msgD_tell _ _ hm, trivial⟩ ?_
    rw [hlen_eq, hsnoc_eq, hsnoc_eq, hsnoc_eq]
    simp only [ren, renL, rho, List.getElem?_nil, List.length_nil, Nat.sub_zero] at this
    simpa using this
   ·cases he
  ·cases he
 ·rename_i C h1 he; (repeat' split at he) <;> cases he
 ·trivial

def Msg.fd (m : Msg) : Nat → Fd
 | 0 => ⟨1, wholeB m.proto 1, m.ok1⟩
 | 1 => ⟨2, ⟨false, m.name⟩, m.ok2⟩
 | 2 => ⟨3, fourB m.a, m.a.low⟩
 | 3 => ⟨4, fourB m.b, m.b.low⟩
 | 4 => ⟨5, m.salt, decide ((m.salt.l.length : Int) ≤ 16)⟩
 | 5 => ⟨6, m.sea, decide ((m.sea.l.length : Int) ≤ 48)⟩
 | 6 => ⟨7, m.tag, decide ((m.tag.l.length : Int) ≤ 16)⟩
 | 7 => ⟨8, m.tok, decide ((m.tok.l.length : Int) ≤ 80)⟩
 | 8 => ⟨9, m.rcd, decide ((m.rcd.l.length : Int) ≤ 120)⟩
 | 9 => ⟨10, wholeB m.channel 8, decide (0 ≤ m.channel)⟩
 | _ => ⟨11, wholeB m.e 1, decide (0 ≤ m.e) && decide (m.e ≤ 11)⟩
def Msg.good (m : Msg) (j : Nat) : Bool := (m.fd j).ok && (decide (0 < ((m.fd j).b.l.length : Int)) == decide ((m.fd j).k ∈ wantL m))
def Msg.goodTo (m : Msg) : Nat → Bool
 | 0 => true
 | j + 1 => m.goodTo j && m.good j
def Msg.rightW (m : Msg) : Bool := !decide (m.kind < 1) && (!decide (12 < m.kind) && m.goodTo 11)
theorem wantL_len (m : Msg) : (wantL m).length ≤ 4 := by
 have key : ∀ (c : Prop) [Decidable c] (a b : List Int), a.length ≤ 4 → b.length ≤ 4 → (if c then a else b).length ≤ 4 := fun c _ a b h1 h2 => by by_cases h : c <;> simp [h, h1, h2]
 unfold wantL
 repeat' (first | apply key | (simp; done))
theorem Msg.goodTo_bad (m : Msg) {j : Nat} (h : m.good j = false) : ∀ n, j < n → m.goodTo n = false
 | 0, hn => by omega
 | n + 1, hn => by
   simp only [Msg.goodTo]
   by_cases e : j = n
   ·subst e; rw [h, Bool.and_false]
   ·rw [Msg.goodTo_bad m h n (by omega), Bool.false_and]
theorem Msg.rightW_bad (m : Msg) {j : Nat} (h : m.good j = false) (hj : j < 11) : m.rightW = false := by
 rw [Msg.rightW, m.goodTo_bad h 11 hj]; simp
theorem Msg.good_ok (m : Msg) {j : Nat} (h : (m.fd j).ok = false) : m.good j = false := by rw [Msg.good, h, Bool.false_and]
theorem Msg.good_has (m : Msg) {j : Nat} (h : (decide (0 < ((m.fd j).b.l.length : Int)) == decide ((m.fd j).k ∈ wantL m)) = false) : m.good j = false := by rw [Msg.good, h, Bool.and_false]
theorem Msg.good_next (m : Msg) {j : Nat} (h0 : m.goodTo j = true) (h1 : (m.fd j).ok = true) (h2 : (decide (0 < ((m.fd j).b.l.length : Int)) == decide ((m.fd j).k ∈ wantL m)) = true) : m.goodTo (j + 1) = true := by
 rw [Msg.goodTo, h0, Msg.good, h1, h2]; rfl
theorem not_t {b : Bool} (h : (!b) = true) : b = false := by cases b <;> first | rfl | cases h
theorem not_f {b : Bool} (h : (!b) = false) : b = true := by cases b <;> first | rfl | cases h
def R19 (m : Msg) : RI where
 n := 11
 inv _ := ([(1, .ptr 0 0 0), (2, .ptr 1 0 0), (3, .ptr 2 0 0)], [⟨0, .agg m.C, false⟩, ⟨0, .agg [.bool false], false⟩, ⟨0, .agg [(wantsI m).A], false⟩, ⟨0, .agg m.C, false⟩, ⟨0, .agg m.fdC, true⟩, ⟨0, .agg [.sl false 11 3 (.agg m.fdC) false], true⟩])
 ren := false
 pre j := m.goodTo j = true
set_option maxHeartbeats 4000000 in
theorem fn19 (m : Msg) : ACalls Try.prog 19 [.agg m.C] [] (fun r h => r = .bool m.rightW ∧ h = []) := by
 refine o19.run (Γ := GR keep19 [(44, e44), (49, e49), (50, e50)] (R19 m) [85] 32) (own := false) (kn := 0) (.cons ok44 o44.enter (.cons ok49 o49.enter (.cons ok50 o50.enter .nil))) (Nat.le_of_ble_eq_true rfl) rfl (Nat.zero_le _) ?_ (Nat.le_of_ble_eq_true rfl) ?_
 rotate_left
 ·intro F hF
  have : F = 85 := by
   simp only [GR, rfind] at hF
   split at hF
   ·rename_i hb; exact (Nat.eq_of_beq_eq_true hb).symm
   ·cases hF
  subst this
  exact ⟨iter85, o85.enter⟩
 dsimp only [c19, keep19, res19, R19, Msg.C, Msg.fdC, msgD, wantsI, Ints.A, isD, e44, e49, e50, Num.eta, By.eta, Ints.eta, Msg.eta, go_sem, Nat.succ, Int.reduceToNat, Nat.reduceAdd, Nat.reduceMul, Nat.reduceSub, Int.reduceLT, Int.reduceLE, Int.reduceNeg, UInt64.reduceToNat, UInt32.reduceToNat, UInt8.reduceToNat]
 have hw := wantL_len m
 have hw' : (wantL m).length ≤ 1099511627776 := by omega
 refine fork_intro (fun h1 => ⟨rfl, rfl, Nat.zero_le _, by rw [Msg.rightW, h1]; rfl, rfl⟩) (fun h1 => fork_intro (fun h2 => ⟨rfl, rfl, Nat.zero_le _, by rw [Msg.rightW, h1, h2]; rfl, rfl⟩) (fun h2 => ?_))
 refine ⟨rfl, rfl, rfl, by omega, ⟨rfl, ?_⟩, ⟨⟨⟨⟨⟨⟨⟨⟨⟨⟨⟨trivial, ?_⟩, ?_⟩, ?_⟩, ?_⟩, ?_⟩, ?_⟩, ?_⟩, ?_⟩, ?_⟩, ?_⟩, ?_⟩, fun hp => ?_⟩
 ·and_intros <;> first | rfl | trivial | exact .inl rfl
 ·intro hp
  refine ⟨rfl, fork_intro (fun h => ⟨rfl, rfl, Nat.zero_le _, by rw [m.rightW_bad (m.good_ok (j := 0) (not_t h)) (by omega)], rfl⟩)
   (fun h => ⟨hw', fork_intro (fun h' => ⟨rfl, rfl, Nat.zero_le _, by rw [m.rightW_bad (m.good_has (j := 0) (not_t h')) (by omega)], rfl⟩) (fun h' => ⟨m.good_next hp (not_f h) (not_f h'), ?_⟩)⟩)⟩
  and_intros <;> first | rfl | trivial | exact .inl rfl
 ·intro hp
  refine ⟨rfl, fork_intro (fun h => ⟨rfl, rfl, Nat.zero_le _, by rw [m.rightW_bad (m.good_ok (j := 1) (not_t h)) (by omega)], rfl⟩)
   (fun h => ⟨hw', fork_intro (fun h' => ⟨rfl, rfl, Nat.zero_le _, by rw [m.rightW_bad (m.good_has (j := 1) (not_t h')) (by omega)], rfl⟩) (fun h' => ⟨m.good_next hp (not_f h) (not_f h'), ?_⟩)⟩)⟩
  and_intros <;> first | rfl | trivial | exact .inl rfl
 ·intro hp
  refine ⟨rfl, fork_intro (fun h => ⟨rfl, rfl, Nat.zero_le _, by rw [m.rightW_bad (m.good_ok (j := 2) (not_t h)) (by omega)], rfl⟩)
   (fun h => ⟨hw', fork_intro (fun h' => ⟨rfl, rfl, Nat.zero_le _, by rw [m.rightW_bad (m.good_has (j := 2) (not_t h')) (by omega)], rfl⟩) (fun h' => ⟨m.good_next hp (not_f h) (not_f h'), ?_⟩)⟩)⟩
  and_intros <;> first | rfl | trivial | exact .inl rfl
 ·intro hp
  refine ⟨rfl, fork_intro (fun h => ⟨rfl, rfl, Nat.zero_le _, by rw [m.rightW_bad (m.good_ok (j := 3) (not_t h)) (by omega)], rfl⟩)
   (fun h => ⟨hw', fork_intro (fun h' => ⟨rfl, rfl, Nat.zero_le _, by rw [m.rightW_bad (m.good_has (j := 3) (not_t h')) (by omega)], rfl⟩) (fun h' => ⟨m.good_next hp (not_f h) (not_f h'), ?_⟩)⟩)⟩
  and_intros <;> first | rfl | trivial | exact .inl rfl
 ·intro hp
  refine ⟨rfl, fork_intro (fun h => ⟨rfl, rfl, Nat.zero_le _, by rw [m.rightW_bad (m.good_ok (j := 4) (not_t h)) (by omega)], rfl⟩)
   (fun h => ⟨hw', fork_intro (fun h' => ⟨rfl, rfl, Nat.zero_le _, by rw [m.rightW_bad (m.good_has (j := 4) (not_t h')) (by omega)], rfl⟩) (fun h' => ⟨m.good_next hp (not_f h) (not_f h'), ?_⟩)⟩)⟩
  and_intros <;> first | rfl | trivial | exact .inl rfl
 ·intro hp
  refine ⟨rfl, fork_intro (fun h => ⟨rfl, rfl, Nat.zero_le _, by rw [m.rightW_bad (m.good_ok (j := 5) (not_t h)) (by omega)], rfl⟩)
   (fun h => ⟨hw', fork_intro (fun h' => ⟨rfl, rfl, Nat.zero_le _, by rw [m.rightW_bad (m.good_has (j := 5) (not_t h')) (by omega)], rfl⟩) (fun h' => ⟨m.good_next hp (not_f h) (not_f h'), ?_⟩)⟩)⟩
  and_intros <;> first | rfl | trivial | exact .inl rfl
 ·intro hp
  refine ⟨rfl, fork_intro (fun h => ⟨rfl, rfl, Nat.zero_le _, by rw [m.rightW_bad (m.good_ok (j := 6) (not_t h)) (by omega)], rfl⟩)
   (fun h => ⟨hw', fork_intro (fun h' => ⟨rfl, rfl, Nat.zero_le _, by rw [m.rightW_bad (m.good_has (j := 6) (not_t h')) (by omega)], rfl⟩) (fun h' => ⟨m.good_next hp (not_f h) (not_f h'), ?_⟩)⟩)⟩
  and_intros <;> first | rfl | trivial | exact .inl rfl
 ·intro hp
  refine ⟨rfl, fork_intro (fun h => ⟨rfl, rfl, Nat.zero_le _, by rw [m.rightW_bad (m.good_ok (j := 7) (not_t h)) (by omega)], rfl⟩)
   (fun h => ⟨hw', fork_intro (fun h' => ⟨rfl, rfl, Nat.zero_le _, by rw [m.rightW_bad (m.good_has (j := 7) (not_t h')) (by omega)], rfl⟩) (fun h' => ⟨m.good_next hp (not_f h) (not_f h'), ?_⟩)⟩)⟩
  and_intros <;> first | rfl | trivial | exact .inl rfl
 ·intro hp
  refine ⟨rfl, fork_intro (fun h => ⟨rfl, rfl, Nat.zero_le _, by rw [m.rightW_bad (m.good_ok (j := 8) (not_t h)) (by omega)], rfl⟩)
   (fun h => ⟨hw', fork_intro (fun h' => ⟨rfl, rfl, Nat.zero_le _, by rw [m.rightW_bad (m.good_has (j := 8) (not_t h')) (by omega)], rfl⟩) (fun h' => ⟨m.good_next hp (not_f h) (not_f h'), ?_⟩)⟩)⟩
  and_intros <;> first | rfl | trivial | exact .inl rfl
 ·intro hp
  refine ⟨rfl, fork_intro (fun h => ⟨rfl, rfl, Nat.zero_le _, by rw [m.rightW_bad (m.good_ok (j := 9) (not_t h)) (by omega)], rfl⟩)
   (fun h => ⟨hw', fork_intro (fun h' => ⟨rfl, rfl, Nat.zero_le _, by rw [m.rightW_bad (m.good_has (j := 9) (not_t h')) (by omega)], rfl⟩) (fun h' => ⟨m.good_next hp (not_f h) (not_f h'), ?_⟩)⟩)⟩
  and_intros <;> first | rfl | trivial | exact .inl rfl
 ·intro hp
  refine ⟨rfl, fork_intro (fun h => ⟨rfl, rfl, Nat.zero_le _, by rw [m.rightW_bad (m.good_ok (j := 10) (not_t h)) (by omega)], rfl⟩)
   (fun h => ⟨hw', fork_intro (fun h' => ⟨rfl, rfl, Nat.zero_le _, by rw [m.rightW_bad (m.good_has (j := 10) (not_t h')) (by omega)], rfl⟩) (fun h' => ⟨m.good_next hp (not_f h) (not_f h'), ?_⟩)⟩)⟩
  and_intros <;> first | rfl | trivial | exact .inl rfl
 ·refine ⟨rfl, rfl, Nat.zero_le _, ?_, rfl⟩
  rw [Msg.rightW, h1, h2, hp]; rfl
def e19 : SpE := ⟨true, ev1 msgD (fun _ => none) fun m => .bool m.rightW⟩
theorem ok19 : SpE.ok Try.prog 19 e19 := ev1_ok kMsg (fun _ => rfl) (fun m _ => fn19 m)
open Go.Proofs
set_option maxRecDepth 100000

theorem fn78 (n : Int) (hn : 0 < n ∧ n ≤ 1099511627776) : ACalls Try.prog 78 [.sl true 0 0 (.agg []) true, .int n] [] (fun r h => r = .ms false 0 0 0 0 1 ∧ h = [⟨0, .agg [], false⟩]) := by
 intro E w vs hvs m
 obtain ⟨k, rfl⟩ : ∃ k : Nat, n = k := ⟨n.toNat, by omega⟩
 simp only [relL, rel, if_true] at hvs
 obtain ⟨u, us, rfl, ⟨rfl, _⟩, u2, us2, rfl, rfl, rfl⟩ := hvs
 refine Calls.mono (Try.grow78 k (by omega) (by omega) w) ?_
 rintro e w' ⟨cap, rfl, cs, hcs, rfl⟩
 obtain ⟨E', le, m', hr⟩ := Post.new_ms (B := ⟨w, E, _, _⟩) m.drew (T := 5) (fr := (0, 0)) (c := .agg []) (cs := cs) (n := 0) (cap := cap) (sz := 1) (vs := []) (post := cs.toList) (by simp) (by simp only [relC, relL, true_and]; intro u hu; cases hu) (Nat.zero_le _) (by omega) (.inl rfl)
 exact ⟨_, _, _, E', rfl, ⟨rfl, rfl⟩, by simp, m', hr⟩
def e78 : SpE := ⟨true, fun xs h => match xs with
 | [.sl true _ _ (.agg []) _, .int n] => .e (some (0 < n ∧ n ≤ 1099511627776)) (.ms false (hlen h) 0 0 0 1) (hsnoc h ⟨0, .agg [], false⟩)
 | _ => .no⟩
theorem ok78 : SpE.ok Try.prog 78 e78 := by
 intro args h
 unfold e78
 simp only
 split
 ·rename_i C A he; split at he <;> cases he
 ·rename_i C A h1 he
  split at he
  ·rename_i n1 sz fl n
   cases he
   intro hn
   have := acalls_more (P := Try.prog) (f := 78) (args := [.sl true 0 0 (.agg []) true, .int n]) rfl (by intro o ho; simp at ho; subst ho; rfl) (fn78 n hn) h
   refine ACalls.said (args' := [.sl true 0 0 (.agg []) true, .int n]) ⟨fun E v r => ?_, Tell.refl _, trivial⟩ ?_
   ·simp only [rel, if_true] at r ⊢; exact ⟨r.1, trivial, r.2.2⟩
   rw [hlen_eq, hsnoc_eq]
   simp only [ren, rho, List.getElem?_nil, List.length_nil, Nat.sub_zero, Nat.add_zero] at this
   exact this
  ·cases he
 ·rename_i C h1 he; split at he <;> cases he
 ·trivial
def li2 (a b : LI) (i : Nat) : LI := match Nat.beq i 0 with | true => a | false => b
def s45 (a b : By) : Nat → Int
 | 0 => 0
 | 1 => a.l.length
 | _ + 2 => (a.l.length : Int) + b.l.length
def n45 (a b : By) : Nat → Nat
 | 0 => 0
 | 1 => a.l.length
 | _ + 2 => a.l.length + b.l.length
def r45 (a b : By) : Nat → AV
 | 0 => .agg []
 | 1 => .ab a.l
 | _ + 2 => .ab (a.l ++ b.l)
def L45a (a b : By) (fl : Bool) : LI where
 X := Nat
 x0 := 0
 pre i := i ≤ 2
 inv i := ([(0, .sl false 2 1 (.agg [a.A, b.A]) fl), (3, .int (s45 a b i)), (9, .sl false 2 1 (.agg [a.A, b.A]) fl), (10, .int 2), (11, .int (ilit i))], [])
 mu i := 2 - i
 ren := false
 fin := some [0, 1, 2]
def L45b (a b : By) (fl : Bool) : LI where
 X := Nat
 x0 := 0
 pre i := i ≤ 2
 inv i := ([(0, .sl false 2 1 (.agg [a.A, b.A]) fl), (6, .ms false 0 0 0 (n45 a b i) 1), (25, .sl false 2 1 (.agg [a.A, b.A]) fl), (26, .int 2), (27, .int (ilit i))], [⟨0, r45 a b i, false⟩])
 mu i := 2 - i
 ren := true
 fin := some [0, 1, 2]
set_option maxHeartbeats 2000000 in
theorem fn45 (a b : By) (fl : Bool) (h0 : 0 < a.l.length + b.l.length ∧ a.l.length + b.l.length ≤ 1099511627776) : ACalls Try.prog 45 [.sl false 2 1 (.agg [a.A, b.A]) fl] [] (fun r h => r = .sl false (a.l.length + b.l.length) 1 (.ab (a.l ++ b.l)) false ∧ h = []) := by
 refine o45.run (Γ := GL keep45 [(78, e78)] (li2 (L45a a b fl) (L45b a b fl))) (own := false) (kn := 0) (.cons ok78 o78.enter .nil) (Nat.le_of_ble_eq_true rfl) rfl (Nat.le_refl _) ?_
 dsimp only [c45, keep45, res45, L45a, L45b, li2, s45, n45, r45, ilit, e78, go_sem, Nat.succ, Int.reduceToNat, Nat.reduceAdd, Nat.reduceMul, Nat.reduceSub, Int.reduceLT, Int.reduceLE, Int.reduceNeg, UInt64.reduceToNat, UInt32.reduceToNat, UInt8.reduceToNat]
 have mem3 : ∀ x : Nat, x ≤ 2 → x ∈ [0, 1, 2] := fun x hx => by
  rcases x with _ | _ | _ | x <;> first | (simp; done) | omega
 have e1 : w64 (0 + (a.l.length : Int)) = a.l.length := by rw [w64_in (by omega)]; omega
 have e2 : w64 ((a.l.length : Int) + b.l.length) = (a.l.length : Int) + b.l.length := w64_in (by omega)
 rw [e1, e2]
 refine ⟨⟨?_, by omega⟩, mem3, ?_, ?_, ?_, trivial⟩
 ·and_intros <;> first | trivial | rfl | omega | exact .refl rfl | exact .ms rfl rfl rfl rfl rfl | exact .ptr rfl rfl rfl rfl rfl | exact .inl ⟨rfl, rfl⟩ | exact .inl rfl
 ·refine fork_intro (fun _ => ⟨by omega, fork_intro (fun h => by have := of_decide_eq_true h; omega) (fun h => ⟨1, by omega, by omega, ?_⟩)⟩) (fun h => by cases h)
  and_intros <;> first | trivial | rfl | omega | exact .refl rfl | exact .ms rfl rfl rfl rfl rfl | exact .ptr rfl rfl rfl rfl rfl | exact .inl ⟨rfl, rfl⟩ | exact .inl rfl
 ·refine fork_intro (fun _ => ⟨by omega, fork_intro (fun h => by have := of_decide_eq_true h; omega) (fun h => ⟨2, by omega, by omega, ?_⟩)⟩) (fun h => by cases h)
  and_intros <;> first | trivial | rfl | omega | exact .refl rfl | exact .ms rfl rfl rfl rfl rfl | exact .ptr rfl rfl rfl rfl rfl | exact .inl ⟨rfl, rfl⟩ | exact .inl rfl
 ·refine fork_intro (fun h => by cases h) (fun _ => ⟨by omega, ⟨?_, by omega⟩, mem3, ?_, ?_, ?_, trivial⟩)
  ·refine ⟨[some 0], by first | rfl | trivial, ?_, by first | rfl | trivial, ?_⟩ <;> exact rn
  ·refine fork_intro (fun _ => ⟨by omega, by omega, 1, by omega, by omega, ?_⟩) (fun h => by cases h)
   simp only [Nat.zero_add]
   refine ⟨[some 0], by first | rfl | trivial, ?_, by first | rfl | trivial, ?_⟩ <;> exact rn
  ·have t1 : a.l.take (a.l.length * a.l.length) = a.l := by
    rcases Nat.eq_zero_or_pos a.l.length with h | h
    ·exact take_all (.inr (List.length_eq_zero_iff.1 h))
    ·exact take_all (.inl (by omega))
   rw [t1]
   refine fork_intro (fun _ => ⟨by omega, by omega, 2, by omega, by omega, ?_⟩) (fun h => by cases h)
   refine ⟨[some 0], by first | rfl | trivial, ?_, by first | rfl | trivial, ?_⟩ <;> exact rn
  ·refine fork_intro (fun h => by cases h) (fun _ => ?_)
   refine ⟨by simp, rfl, rfl, Nat.zero_le _, ?_, rfl⟩
   rw [List.drop_zero, List.take_of_length_le (by simp)]
theorem fn78z : ACalls Try.prog 78 [.sl true 0 0 (.agg []) true, .int 0] [] (fun r h => r = .sl true 0 0 (.agg []) true ∧ h = []) := by
 refine o78.run (Γ := G0 keep78 []) (own := false) (kn := 0) .nil (Nat.le_of_ble_eq_true rfl) rfl (Nat.le_refl _) ?_
 dsimp only [c78, keep78, res78, go_sem, Nat.succ, Int.reduceToNat, Nat.reduceAdd, Nat.reduceMul, Nat.reduceSub, Int.reduceLT, Int.reduceLE, Int.reduceNeg, UInt64.reduceToNat, UInt32.reduceToNat, UInt8.reduceToNat]
 refine fork_intro (fun h => by cases h) (fun _ => fork_intro (fun h => by revert h; decide) (fun _ => ?_))
 and_intros <;> first | trivial | rfl
def e78z : SpE := ⟨true, fun xs h => match xs with
 | [.sl true _ _ (.agg []) _, .int n] => .v (some (n = 0)) (.sl true 0 0 (.agg []) true)
 | _ => .no⟩
theorem ok78z : SpE.ok Try.prog 78 e78z := by
 intro args h
 unfold e78z
 simp only
 split
 ·rename_i C A he
  split at he
  ·rename_i n1 sz fl n
   cases he
   rintro (rfl : n = 0)
   refine ACalls.said (args' := [.sl true 0 0 (.agg []) true, .int 0]) ⟨fun E v r => ?_, Tell.refl _, trivial⟩ (acalls_pure rfl rfl fn78z h)
   simp only [rel, if_true] at r ⊢; exact ⟨r.1, trivial, r.2.2⟩
  ·cases he
 ·rename_i C A h1 he; split at he <;> cases he
 ·rename_i C h1 he; split at he <;> cases he
 ·trivial
def v45z : Nat → AV
 | 0 => .sl true 0 0 (.agg []) true
 | _ + 1 => .ms true 0 0 0 0 1
def h45z : Nat → List AO
 | 0 => []
 | _ + 1 => [⟨0, .ab [], false⟩]
def L45y (a b : Bool) (fl : Bool) : LI where
 X := Nat
 x0 := 0
 pre i := i ≤ 2
 inv i := ([(0, .sl false 2 1 (.agg [By.A ⟨a, []⟩, By.A ⟨b, []⟩]) fl), (3, .int 0), (9, .sl false 2 1 (.agg [By.A ⟨a, []⟩, By.A ⟨b, []⟩]) fl), (10, .int 2), (11, .int (ilit i))], [])
 mu i := 2 - i
 ren := false
 fin := some [0, 1, 2]
def L45z (a b : Bool) (fl : Bool) : LI where
 X := Nat
 x0 := 0
 pre i := i ≤ 2
 inv i := ([(0, .sl false 2 1 (.agg [By.A ⟨a, []⟩, By.A ⟨b, []⟩]) fl), (6, v45z i), (25, .sl false 2 1 (.agg [By.A ⟨a, []⟩, By.A ⟨b, []⟩]) fl), (26, .int 2), (27, .int (ilit i))], h45z i)
 mu i := 2 - i
 ren := true
 fin := some [0, 1, 2]
set_option maxHeartbeats 2000000 in
theorem fn45z (a b : Bool) (fl : Bool) : ACalls Try.prog 45 [.sl false 2 1 (.agg [By.A ⟨a, []⟩, By.A ⟨b, []⟩]) fl] [] (fun r h => r = By.A ⟨true, []⟩ ∧ h = []) := by
 refine o45.run (Γ := GL keep45 [(78, e78z)] (li2 (L45y a b fl) (L45z a b fl))) (own := false) (kn := 0) (.cons ok78z o78.enter .nil) (Nat.le_of_ble_eq_true rfl) rfl (Nat.le_refl _) ?_
 dsimp only [c45, keep45, res45, L45y, L45z, li2, v45z, h45z, ilit, e78z, List.length_nil, go_sem, Nat.succ, Int.reduceToNat, Nat.reduceAdd, Nat.reduceMul, Nat.reduceSub, Int.reduceLT, Int.reduceLE, Int.reduceNeg, UInt64.reduceToNat, UInt32.reduceToNat, UInt8.reduceToNat]
 have mem3 : ∀ x : Nat, x ≤ 2 → x ∈ [0, 1, 2] := fun x hx => by
  rcases x with _ | _ | _ | x <;> first | (simp; done) | omega
 refine ⟨⟨?_, by omega⟩, mem3, ?_, ?_, ?_, trivial⟩
 ·and_intros <;> first | trivial | rfl | omega | exact .refl rfl | exact .ms rfl rfl rfl rfl rfl | exact .ptr rfl rfl rfl rfl rfl | exact .inl ⟨rfl, rfl⟩ | exact .inl rfl
 ·refine fork_intro (fun _ => ⟨by omega, fork_intro (fun h => by revert h; decide) (fun h => ⟨1, by omega, by omega, ?_⟩)⟩) (fun h => by cases h)
  and_intros <;> first | trivial | rfl | omega | exact .refl rfl | exact .ms rfl rfl rfl rfl rfl | exact .ptr rfl rfl rfl rfl rfl | exact .inl ⟨rfl, rfl⟩ | exact .inl rfl
 ·refine fork_intro (fun _ => ⟨by omega, fork_intro (fun h => by revert h; decide) (fun h => ⟨2, by omega, by omega, ?_⟩)⟩) (fun h => by cases h)
  and_intros <;> first | trivial | rfl | omega | exact .refl rfl | exact .ms rfl rfl rfl rfl rfl | exact .ptr rfl rfl rfl rfl rfl | exact .inl ⟨rfl, rfl⟩ | exact .inl rfl
 ·refine fork_intro (fun h => by cases h) (fun _ => ⟨rfl, ⟨?_, by omega⟩, mem3, ?_, ?_, ?_, trivial⟩)
  ·refine ⟨[], by first | rfl | trivial, ?_, by first | rfl | trivial, ?_⟩ <;> exact rn
  ·refine fork_intro (fun _ => ⟨by omega, by omega, 1, by omega, by omega, ?_⟩) (fun h => by cases h)
   refine ⟨[some 0], by first | rfl | trivial, ?_, by first | rfl | trivial, ?_⟩ <;> exact rn
  ·refine fork_intro (fun _ => ⟨by omega, by simp, 2, by omega, by omega, ?_⟩) (fun h => by cases h)
   refine ⟨[some 0], by first | rfl | trivial, ?_, by first | rfl | trivial, ?_⟩ <;> exact rn
  ·refine fork_intro (fun h => by cases h) (fun _ => ?_)
   and_intros <;> first | trivial | rfl | omega | exact .refl rfl | exact .ms rfl rfl rfl rfl rfl | exact .ptr rfl rfl rfl rfl rfl | exact .inl ⟨rfl, rfl⟩ | exact .inl rfl
def catB (a b : By) : By := match decide (0 < a.l.length + b.l.length) with | true => ⟨false, a.l ++ b.l⟩ | false => ⟨true, []⟩
theorem fn45c (a b : By) (fl : Bool) (h0 : a.l.length + b.l.length ≤ 1099511627776) : ACalls Try.prog 45 [.sl false 2 1 (.agg [a.A, b.A]) fl] [] (fun r h => r = (catB a b).A ∧ h = []) := by
 by_cases h : 0 < a.l.length + b.l.length
 ·have := fn45 a b fl ⟨h, h0⟩
  rw [catB, decide_eq_true h]
  refine this.mono fun r hh hr => ⟨?_, hr.2⟩
  rw [hr.1, By.A, List.length_append]
 ·have e1 : a.l = [] := List.eq_nil_of_length_eq_zero (by omega)
  have e2 : b.l = [] := List.eq_nil_of_length_eq_zero (by omega)
  obtain ⟨na, la⟩ := a
  obtain ⟨nb, lb⟩ := b
  simp only at e1 e2
  subst e1 e2
  exact fn45z na nb fl

theorem ACalls.frz {P : Program} {f : FuncId} {args args' : List AV} {h : List AO} {K : AV → List AO → Prop} {i : Nat} {ob : AO} (hi : h[i]? = some ob)
  (ha : ∀ (B : Base) (E E' : Env) (w : World) (vs : List Value), Mem B E h w → E.le E' → Mem B E' (h.set i { ob with fz := true }) w → relL E args vs → relL E' args' vs) (hc : ACalls P f args' (h.set i { ob with fz := true }) K) : ACalls P f args h K := by
 intro E w vs hvs m
 obtain ⟨E', le, m', _, _⟩ := m.freeze hi
 refine Calls.mono (calls_of m' (ha _ _ _ _ _ m le m' hvs) hc) fun e w' hh => ?_
 obtain ⟨v, r, h', rfl, k1, E2, k2, k3, k4⟩ := hh
 have hl : h.length ≤ h'.length := Mem.longer m k3
 exact ⟨v, r, h', E2, rfl, k1, hl, k3, k4⟩
def e45 : SpE := ⟨false, fun xs h => match xs with
 | [.sl false n sz (.agg [a, b]) fl] => match Nat.beq n 2 with
   | true => match Nat.beq sz 1 with
     | true => match byD a with
       | some x => match b with
         | .ms false i e o k sz2 => match hget h i with
           | some ob => match Nat.beq ob.ep e with
             | true => match Nat.beq o 0 with
               | true => match Nat.beq sz2 1 with
                 | true => match ob.c with
                   | .ab l => .e (some (k = l.length ∧ 0 < x.l.length + l.length ∧ x.l.length + l.length ≤ 1099511627776)) (.sl false (x.l.length + l.length) 1 (.ab (x.l ++ l)) false) (hset h i { ob with fz := true })
                   | _ => .no
                 | false => .no
               | false => .no
             | false => .no
           | none => .no
         | b => match byD b with
           | some y => .v (some (x.l.length + y.l.length ≤ 1099511627776)) (catB x y).A
           | none => .no
       | none => .no
     | false => .no
   | false => .no
 | _ => .no⟩
theorem tell_row {a b x y : AV} {n : Nat} {fl : Bool} (h1 : Tell a x) (h2 : Tell b y) : Tell (.sl false n 1 (.agg [a, b]) fl) (.sl false n 1 (.agg [x, y]) fl) := fun E v r => by
 simp only [rel, Bool.false_eq_true, if_false] at r ⊢
 obtain ⟨ad, cap, vs, e1, e2, e3, e4, e5, e6⟩ := r
 refine ⟨ad, cap, vs, e1, e2, e3, e4, e5, ?_⟩
 simp only [relC] at e6 ⊢
 exact ⟨TellL.rel (l := [a, b]) (m := [x, y]) ⟨h1, h2, trivial⟩ e6.1, e6.2⟩
theorem ok45 : SpE.ok Try.prog 45 e45 := by
 intro args h
 unfold e45
 simp only
 split
 ·rename_i C A he
  split at he
  ·rename_i n sz a b fl
   split at he
   ·rename_i b1
    split at he
    ·rename_i b2
     split at he
     ·rename_i x hx
      split at he
      ·(repeat' split at he) <;> cases he
      ·split at he
       ·rename_i y hy
        cases he
        obtain rfl := Nat.eq_of_beq_eq_true b1
        obtain rfl := Nat.eq_of_beq_eq_true b2
        intro hC
        exact ACalls.said (args' := [.sl false 2 1 (.agg [x.A, y.A]) fl]) ⟨tell_row (byD_tell _ _ hx) (byD_tell _ _ hy), trivial⟩ (acalls_pure rfl rfl (fn45c x y fl hC) h)
       ·cases he
     ·cases he
    ·cases he
   ·cases he
  ·cases he
 ·rename_i C A h1 he
  split at he
  ·rename_i n sz a b fl
   split at he
   ·rename_i b1
    split at he
    ·rename_i b2
     split at he
     ·rename_i x hx
      split at he
      ·rename_i i e o k sz2
       split at he
       ·rename_i ob hob
        split at he
        ·rename_i b3
         split at he
         ·rename_i b4
          split at he
          ·rename_i b5
           split at he
           ·rename_i l hc
            cases he
            obtain rfl := Nat.eq_of_beq_eq_true b1
            obtain rfl := Nat.eq_of_beq_eq_true b2
            obtain rfl := Nat.eq_of_beq_eq_true b4
            obtain rfl := Nat.eq_of_beq_eq_true b5
            have b3 := Nat.eq_of_beq_eq_true b3
            rintro ⟨rfl, hC⟩
            have hob' : h[i]? = some ob := by rw [← hget_eq]; exact hob
            rw [hset_eq]
            refine ACalls.frz hob' (args' := [.sl false 2 1 (.agg [x.A, By.A ⟨false, l⟩]) fl]) ?_ (acalls_pure rfl rfl (fn45 x ⟨false, l⟩ fl hC) _)
            intro B E E' w vs m le m' r
            simp only [relL] at r ⊢
            obtain ⟨u, us, rfl, r, rfl⟩ := r
            refine ⟨u, [], rfl, ?_, rfl⟩
            simp only [rel, Bool.false_eq_true, if_false] at r ⊢
            obtain ⟨ad, cap, vs, e1, e2, e3, e4, e5, e6⟩ := r
            refine ⟨ad, cap, vs, e1, e2, e3, e4.imp id (fun ⟨b, o, x, y⟩ => ⟨b, o, x, y.mono le⟩), e5, ?_⟩
            simp only [relC, relL] at e6 ⊢
            obtain ⟨⟨u1, us1, rfl, k1, u2, us2, rfl, k2, rfl⟩, hone⟩ := e6
            refine ⟨⟨u1, _, rfl, rel.mono le _ _ (byD_tell _ _ hx _ _ k1), u2, [], rfl, ?_, rfl⟩, hone⟩
            have k2' := rel.mono le _ _ k2
            simp only [rel, Bool.false_eq_true, if_false] at k2'
            obtain ⟨_, _, ad2, cap2, rfl, c1, c2⟩ := k2'
            have hlt : i < h.length := (List.getElem?_eq_some_iff.1 hob').1
            obtain ⟨q1, b', s', q2, q3⟩ := m'.obj i { ob with fz := true } (by rw [List.getElem?_set_self hlt])
            obtain ⟨b'', s'', c3, c4, c5⟩ := c2 (by rw [q1]; exact b3.symm)
            rw [q2] at c3; cases c3
            simp only [By.A, rel, Bool.false_eq_true, if_false]
            rcases q3 with ⟨g1, g2⟩ | ⟨_, vs3, g1, g2⟩ | ⟨g1, _⟩
            ·rw [hc] at g2
             simp only [relC] at g2
             have hl0 : l = [] := by simpa using g2.symm
             subst hl0
             exact ⟨ad2, cap2, [], rfl, by simpa using c1, (fun e => by cases e), .inl rfl, by simp, by simp [relC]⟩
            ·rw [hc] at g2
             have hl : vs3.length = l.length := by simp only [relC] at g2; rw [g2]; simp
             refine ⟨ad2, cap2, vs3, rfl, c1, (fun e => by cases e), ?_, by simpa using hl, g2⟩
             rcases c4 with c4 | c4
             ·left; have : l.length = 0 := by omega
              exact List.eq_nil_of_length_eq_zero (by omega)
             ·exact .inr ⟨b', 0, c4, g1⟩
            ·cases g1
           ·cases he
          ·cases he
         ·cases he
        ·cases he
       ·cases he
      ·split at he <;> cases he
     ·cases he
    ·cases he
   ·cases he
  ·cases he
 ·rename_i C h1 he; (repeat' split at he) <;> cases he
 ·trivial
open Go.Proofs
set_option maxRecDepth 100000

def Msg.encW (m : Msg) : Nat → List UInt8
 | 0 => [UInt8.ofInt m.kind]
 | j + 1 => match decide (0 < ((m.fd j).b.l.length : Int)) with
   | true => fieldB (m.encW j) (m.fd j).k (m.fd j).b.l
   | false => m.encW j
theorem Msg.encW_pos (m : Msg) : ∀ i, 0 < (m.encW i).length
 | 0 => by simp [Msg.encW]
 | i + 1 => by
   have := m.encW_pos i
   simp only [Msg.encW]
   split
   ·simp only [fieldB, List.length_append]; omega
   ·exact this
theorem Msg.goodTo_get (m : Msg) : ∀ {n : Nat}, m.goodTo n = true → ∀ j, j < n → m.good j = true
 | 0, _, j, hj => by omega
 | n + 1, h, j, hj => by
   simp only [Msg.goodTo, Bool.and_eq_true] at h
   by_cases e : j = n
   ·rw [e]; exact h.2
   ·exact m.goodTo_get h.1 j (by omega)
theorem Msg.fd_le (m : Msg) (h : m.goodTo 11 = true) (j : Nat) (hj : j < 11) : (m.fd j).b.l.length ≤ 120 := by
 have hg := m.goodTo_get h j hj
 simp only [Msg.good, Bool.and_eq_true] at hg
 have hk := hg.1
 have hw : ∀ (n : Int) (k : Nat), k ≤ 32 → (wholeB n k).l.length ≤ 32 := fun n k hk => by
  unfold wholeB; split
  ·simp
  ·show (atB _ k).length ≤ 32; rw [atB_len _ _ hk]; exact hk
 have hf : ∀ x : Num, (fourB x).l.length ≤ 4 := fun x => by unfold fourB; split <;> simp [be4]
 rcases j with _ | _ | _ | _ | _ | _ | _ | _ | _ | _ | _ | j
 ·have := hw m.proto 1 (by omega); show (wholeB m.proto 1).l.length ≤ 120; omega
 ·simp only [Msg.fd, Msg.ok2, Bool.or_eq_true, beq_iff_eq] at hk ⊢
  rcases hk with hk | hk
  ·rw [hk]; simp
  ·have := nameOK_len hk; omega
 ·have := hf m.a; show (fourB m.a).l.length ≤ 120; omega
 ·have := hf m.b; show (fourB m.b).l.length ≤ 120; omega
 ·simp only [Msg.fd, decide_eq_true_eq] at hk ⊢; omega
 ·simp only [Msg.fd, decide_eq_true_eq] at hk ⊢; omega
 ·simp only [Msg.fd, decide_eq_true_eq] at hk ⊢; omega
 ·simp only [Msg.fd, decide_eq_true_eq] at hk ⊢; omega
 ·simp only [Msg.fd, decide_eq_true_eq] at hk ⊢; omega
 ·have := hw m.channel 8 (by omega); show (wholeB m.channel 8).l.length ≤ 120; omega
 ·have := hw m.e 1 (by omega); show (wholeB m.e 1).l.length ≤ 120; omega
 ·omega
theorem Msg.encW_le (m : Msg) (h : m.goodTo 11 = true) : ∀ i, i ≤ 11 → (m.encW i).length ≤ 1 + 122 * i
 | 0, _ => by simp [Msg.encW]
 | i + 1, hi => by
   have := m.encW_le h i (by omega)
   have hb := m.fd_le h i (by omega)
   simp only [Msg.encW]
   split
   ·simp only [fieldB, List.length_append, List.length_cons, List.length_nil]; omega
   ·omega
def Msg.isW (m : Msg) : Bool := m.rightW && decide ((m.encW 11).length ≤ 200)
def Msg.outW (m : Msg) : By := match m.isW with
 | true => ⟨false, [UInt8.ofInt (((m.encW 11).length : Int) / 2 ^ 8), UInt8.ofInt ((m.encW 11).length : Int)] ++ m.encW 11⟩
 | false => ⟨true, []⟩
def R17 (m : Msg) : RI where
 n := 11
 inv j := ([(1, .ptr 0 0 0), (4, .ptr 2 0 0)], [⟨0, .agg m.C, false⟩, ⟨0, .ab (m.encW j), false⟩, ⟨0, .agg [.ms false 1 0 0 (m.encW j).length 1], false⟩, ⟨0, .agg m.C, false⟩, ⟨0, .agg m.fdC, true⟩, ⟨0, .agg [.sl false 11 3 (.agg m.fdC) false], true⟩])
 ren := true
set_option maxHeartbeats 8000000 in
theorem fn17 (m : Msg) : ACalls Try.prog 17 [.agg m.C] [] (fun r h => r = .tup [m.outW.A, .bool m.isW] ∧ h = []) := by
 refine ACalls.tell (K := fun r h => (∃ a, r = .tup [a, .bool m.isW] ∧ byD a = some m.outW) ∧ h = []) ?_ ?_
 ·refine o17.run (Γ := GR keep17 [(19, e19), (44, e44), (45, e45)] (R17 m) [85] 47) (own := false) (kn := 0) (.cons ok19 o19.enter (.cons ok44 o44.enter (.cons ok45 o45.enter .nil))) (Nat.le_of_ble_eq_true rfl) rfl (Nat.zero_le _) ?_ (Nat.le_of_ble_eq_true rfl) ?_
  rotate_left
  ·intro F hF
   have : F = 85 := by
    simp only [GR, rfind] at hF
    split at hF
    ·rename_i hb; exact (Nat.eq_of_beq_eq_true hb).symm
    ·cases hF
   subst this
   exact ⟨iter85, o85.enter⟩
  dsimp only [c17, keep17, res17, R17, Msg.C, Msg.fdC, msgD, e19, e44, e45, Num.eta, By.eta, Msg.eta, go_sem, Nat.succ, Int.reduceToNat, Nat.reduceAdd, Nat.reduceMul, Nat.reduceSub, Int.reduceLT, Int.reduceLE, Int.reduceNeg, UInt64.reduceToNat, UInt32.reduceToNat, UInt8.reduceToNat]
  refine fork_intro (fun h => ?_) (fun h => ?_)
  ·have h : m.isW = false := by rw [Msg.isW, not_t h, Bool.false_and]
   exact ⟨rfl, rfl, Nat.zero_le _, ⟨.sl true 0 0 (.agg []) true, by rw [h], by rw [Msg.outW, h]⟩, rfl⟩
  have hr : m.rightW = true := not_f h
  have hg : m.goodTo 11 = true := by
   have := hr
   simp only [Msg.rightW, Bool.and_eq_true] at this
   exact this.2.2
  refine ⟨rfl, rfl, rfl, by omega, ⟨trivial, ?_⟩, ⟨⟨⟨⟨⟨⟨⟨⟨⟨⟨⟨trivial, ?_⟩, ?_⟩, ?_⟩, ?_⟩, ?_⟩, ?_⟩, ?_⟩, ?_⟩, ?_⟩, ?_⟩, ?_⟩, fun _ => ?_⟩
  ·refine ⟨[some 0, some 1, some 2, some 3, some 4, some 5], by first | rfl | trivial, ?_, by first | rfl | trivial, ?_⟩ <;> exact rn
  ·intro _
   have hp := m.encW_pos 0
   have hl := m.encW_le hg 0 (by omega)
   have hf : (wholeB m.proto 1).l.length ≤ 120 := m.fd_le hg 0 (by omega)
   have t1 : (m.encW 0).take ((m.encW 0).length * (m.encW 0).length) = m.encW 0 := take_all (.inl (by omega))
   have t2 : (m.encW 0 ++ [UInt8.ofInt 1, UInt8.ofInt ((wholeB m.proto 1).l.length : Int)]).take (((m.encW 0).length + 2) * (m.encW 0 ++ [UInt8.ofInt 1, UInt8.ofInt ((wholeB m.proto 1).l.length : Int)]).length) = m.encW 0 ++ [UInt8.ofInt 1, UInt8.ofInt ((wholeB m.proto 1).l.length : Int)] := take_all (.inl (by omega))
   rw [t1, t2]
   refine ⟨rfl, fork_intro (fun h => ?_) (fun h => ?_)⟩
   ·have e1 : m.encW 0 ++ [UInt8.ofInt 1, UInt8.ofInt ((wholeB m.proto 1).l.length : Int)] ++ (wholeB m.proto 1).l = m.encW 1 := by
     show _ = (match decide (0 < ((wholeB m.proto 1).l.length : Int)) with | true => fieldB (m.encW 0) 1 (wholeB m.proto 1).l | false => m.encW 0)
     rw [h]; rfl
    have e2 : (m.encW 0).length + 2 + (wholeB m.proto 1).l.length = (m.encW 1).length := by rw [← e1]; simp only [List.length_append, List.length_cons, List.length_nil]
    refine ⟨⟨by omega, by omega⟩, ⟨by simp, by omega⟩, trivial, ?_⟩
    rw [e1, e2]
    refine ⟨[some 0, some 1, some 2, some 3, some 4, some 5], by first | rfl | trivial, ?_, by first | rfl | trivial, ?_⟩ <;> exact rn
   ·have e1 : m.encW 0 = m.encW 1 := by
     show _ = (match decide (0 < ((wholeB m.proto 1).l.length : Int)) with | true => fieldB (m.encW 0) 1 (wholeB m.proto 1).l | false => m.encW 0)
     rw [h]
    rw [e1]
    refine ⟨trivial, ?_⟩
    refine ⟨[some 0, some 1, some 2, some 3, some 4, some 5], by first | rfl | trivial, ?_, by first | rfl | trivial, ?_⟩ <;> exact rn
  ·intro _
   have hp := m.encW_pos 1
   have hl := m.encW_le hg 1 (by omega)
   have hf : m.name.length ≤ 120 := m.fd_le hg 1 (by omega)
   have t1 : (m.encW 1).take ((m.encW 1).length * (m.encW 1).length) = m.encW 1 := take_all (.inl (by omega))
   have t2 : (m.encW 1 ++ [UInt8.ofInt 2, UInt8.ofInt (m.name.length : Int)]).take (((m.encW 1).length + 2) * (m.encW 1 ++ [UInt8.ofInt 2, UInt8.ofInt (m.name.length : Int)]).length) = m.encW 1 ++ [UInt8.ofInt 2, UInt8.ofInt (m.name.length : Int)] := take_all (.inl (by omega))
   rw [t1, t2]
   refine ⟨rfl, fork_intro (fun h => ?_) (fun h => ?_)⟩
   ·have e1 : m.encW 1 ++ [UInt8.ofInt 2, UInt8.ofInt (m.name.length : Int)] ++ m.name = m.encW 2 := by
     show _ = (match decide (0 < (m.name.length : Int)) with | true => fieldB (m.encW 1) 2 m.name | false => m.encW 1)
     rw [h]; rfl
    have e2 : (m.encW 1).length + 2 + m.name.length = (m.encW 2).length := by rw [← e1]; simp only [List.length_append, List.length_cons, List.length_nil]
    refine ⟨⟨by omega, by omega⟩, ⟨by simp, by omega⟩, trivial, ?_⟩
    rw [e1, e2]
    refine ⟨[some 0, some 1, some 2, some 3, some 4, some 5], by first | rfl | trivial, ?_, by first | rfl | trivial, ?_⟩ <;> exact rn
   ·have e1 : m.encW 1 = m.encW 2 := by
     show _ = (match decide (0 < (m.name.length : Int)) with | true => fieldB (m.encW 1) 2 m.name | false => m.encW 1)
     rw [h]
    rw [e1]
    refine ⟨trivial, ?_⟩
    refine ⟨[some 0, some 1, some 2, some 3, some 4, some 5], by first | rfl | trivial, ?_, by first | rfl | trivial, ?_⟩ <;> exact rn
  ·intro _
   have hp := m.encW_pos 2
   have hl := m.encW_le hg 2 (by omega)
   have hf : (fourB m.a).l.length ≤ 120 := m.fd_le hg 2 (by omega)
   have t1 : (m.encW 2).take ((m.encW 2).length * (m.encW 2).length) = m.encW 2 := take_all (.inl (by omega))
   have t2 : (m.encW 2 ++ [UInt8.ofInt 3, UInt8.ofInt ((fourB m.a).l.length : Int)]).take (((m.encW 2).length + 2) * (m.encW 2 ++ [UInt8.ofInt 3, UInt8.ofInt ((fourB m.a).l.length : Int)]).length) = m.encW 2 ++ [UInt8.ofInt 3, UInt8.ofInt ((fourB m.a).l.length : Int)] := take_all (.inl (by omega))
   rw [t1, t2]
   refine ⟨rfl, fork_intro (fun h => ?_) (fun h => ?_)⟩
   ·have e1 : m.encW 2 ++ [UInt8.ofInt 3, UInt8.ofInt ((fourB m.a).l.length : Int)] ++ (fourB m.a).l = m.encW 3 := by
     show _ = (match decide (0 < ((fourB m.a).l.length : Int)) with | true => fieldB (m.encW 2) 3 (fourB m.a).l | false => m.encW 2)
     rw [h]; rfl
    have e2 : (m.encW 2).length + 2 + (fourB m.a).l.length = (m.encW 3).length := by rw [← e1]; simp only [List.length_append, List.length_cons, List.length_nil]
    refine ⟨⟨by omega, by omega⟩, ⟨by simp, by omega⟩, trivial, ?_⟩
    rw [e1, e2]
    refine ⟨[some 0, some 1, some 2, some 3, some 4, some 5], by first | rfl | trivial, ?_, by first | rfl | trivial, ?_⟩ <;> exact rn
   ·have e1 : m.encW 2 = m.encW 3 := by
     show _ = (match decide (0 < ((fourB m.a).l.length : Int)) with | true => fieldB (m.encW 2) 3 (fourB m.a).l | false => m.encW 2)
     rw [h]
    rw [e1]
    refine ⟨trivial, ?_⟩
    refine ⟨[some 0, some 1, some 2, some 3, some 4, some 5], by first | rfl | trivial, ?_, by first | rfl | trivial, ?_⟩ <;> exact rn
  ·intro _
   have hp := m.encW_pos 3
   have hl := m.encW_le hg 3 (by omega)
   have hf : (fourB m.b).l.length ≤ 120 := m.fd_le hg 3 (by omega)
   have t1 : (m.encW 3).take ((m.encW 3).length * (m.encW 3).length) = m.encW 3 := take_all (.inl (by omega))
   have t2 : (m.encW 3 ++ [UInt8.ofInt 4, UInt8.ofInt ((fourB m.b).l.length : Int)]).take (((m.encW 3).length + 2) * (m.encW 3 ++ [UInt8.ofInt 4, UInt8.ofInt ((fourB m.b).l.length : Int)]).length) = m.encW 3 ++ [UInt8.ofInt 4, UInt8.ofInt ((fourB m.b).l.length : Int)] := take_all (.inl (by omega))
   rw [t1, t2]
   refine ⟨rfl, fork_intro (fun h => ?_) (fun h => ?_)⟩
   ·have e1 : m.encW 3 ++ [UInt8.ofInt 4, UInt8.ofInt ((fourB m.b).l.length : Int)] ++ (fourB m.b).l = m.encW 4 := by
     show _ = (match decide (0 < ((fourB m.b).l.length : Int)) with | true => fieldB (m.encW 3) 4 (fourB m.b).l | false => m.encW 3)
     rw [h]; rfl
    have e2 : (m.encW 3).length + 2 + (fourB m.b).l.length = (m.encW 4).length := by rw [← e1]; simp only [List.length_append, List.length_cons, List.length_nil]
    refine ⟨⟨by omega, by omega⟩, ⟨by simp, by omega⟩, trivial, ?_⟩
    rw [e1, e2]
    refine ⟨[some 0, some 1, some 2, some 3, some 4, some 5], by first | rfl | trivial, ?_, by first | rfl | trivial, ?_⟩ <;> exact rn
   ·have e1 : m.encW 3 = m.encW 4 := by
     show _ = (match decide (0 < ((fourB m.b).l.length : Int)) with | true => fieldB (m.encW 3) 4 (fourB m.b).l | false => m.encW 3)
     rw [h]
    rw [e1]
    refine ⟨trivial, ?_⟩
    refine ⟨[some 0, some 1, some 2, some 3, some 4, some 5], by first | rfl | trivial, ?_, by first | rfl | trivial, ?_⟩ <;> exact rn
  ·intro _
   have hp := m.encW_pos 4
   have hl := m.encW_le hg 4 (by omega)
   have hf : m.salt.l.length ≤ 120 := m.fd_le hg 4 (by omega)
   have t1 : (m.encW 4).take ((m.encW 4).length * (m.encW 4).length) = m.encW 4 := take_all (.inl (by omega))
   have t2 : (m.encW 4 ++ [UInt8.ofInt 5, UInt8.ofInt (m.salt.l.length : Int)]).take (((m.encW 4).length + 2) * (m.encW 4 ++ [UInt8.ofInt 5, UInt8.ofInt (m.salt.l.length : Int)]).length) = m.encW 4 ++ [UInt8.ofInt 5, UInt8.ofInt (m.salt.l.length : Int)] := take_all (.inl (by omega))
   rw [t1, t2]
   refine ⟨rfl, fork_intro (fun h => ?_) (fun h => ?_)⟩
   ·have e1 : m.encW 4 ++ [UInt8.ofInt 5, UInt8.ofInt (m.salt.l.length : Int)] ++ m.salt.l = m.encW 5 := by
     show _ = (match decide (0 < (m.salt.l.length : Int)) with | true => fieldB (m.encW 4) 5 m.salt.l | false => m.encW 4)
     rw [h]; rfl
    have e2 : (m.encW 4).length + 2 + m.salt.l.length = (m.encW 5).length := by rw [← e1]; simp only [List.length_append, List.length_cons, List.length_nil]
    refine ⟨⟨by omega, by omega⟩, ⟨by simp, by omega⟩, trivial, ?_⟩
    rw [e1, e2]
    refine ⟨[some 0, some 1, some 2, some 3, some 4, some 5], by first | rfl | trivial, ?_, by first | rfl | trivial, ?_⟩ <;> exact rn
   ·have e1 : m.encW 4 = m.encW 5 := by
     show _ = (match decide (0 < (m.salt.l.length : Int)) with | true => fieldB (m.encW 4) 5 m.salt.l | false => m.encW 4)
     rw [h]
    rw [e1]
    refine ⟨trivial, ?_⟩
    refine ⟨[some 0, some 1, some 2, some 3, some 4, some 5], by first | rfl | trivial, ?_, by first | rfl | trivial, ?_⟩ <;> exact rn
  ·intro _
   have hp := m.encW_pos 5
   have hl := m.encW_le hg 5 (by omega)
   have hf : m.sea.l.length ≤ 120 := m.fd_le hg 5 (by omega)
   have t1 : (m.encW 5).take ((m.encW 5).length * (m.encW 5).length) = m.encW 5 := take_all (.inl (by omega))
   have t2 : (m.encW 5 ++ [UInt8.ofInt 6, UInt8.ofInt (m.sea.l.length : Int)]).take (((m.encW 5).length + 2) * (m.encW 5 ++ [UInt8.ofInt 6, UInt8.ofInt (m.sea.l.length : Int)]).length) = m.encW 5 ++ [UInt8.ofInt 6, UInt8.ofInt (m.sea.l.length : Int)] := take_all (.inl (by omega))
   rw [t1, t2]
   refine ⟨rfl, fork_intro (fun h => ?_) (fun h => ?_)⟩
   ·have e1 : m.encW 5 ++ [UInt8.ofInt 6, UInt8.ofInt (m.sea.l.length : Int)] ++ m.sea.l = m.encW 6 := by
     show _ = (match decide (0 < (m.sea.l.length : Int)) with | true => fieldB (m.encW 5) 6 m.sea.l | false => m.encW 5)
     rw [h]; rfl
    have e2 : (m.encW 5).length + 2 + m.sea.l.length = (m.encW 6).length := by rw [← e1]; simp only [List.length_append, List.length_cons, List.length_nil]
    refine ⟨⟨by omega, by omega⟩, ⟨by simp, by omega⟩, trivial, ?_⟩
    rw [e1, e2]
    refine ⟨[some 0, some 1, some 2, some 3, some 4, some 5], by first | rfl | trivial, ?_, by first | rfl | trivial, ?_⟩ <;> exact rn
   ·have e1 : m.encW 5 = m.encW 6 := by
     show _ = (match decide (0 < (m.sea.l.length : Int)) with | true => fieldB (m.encW 5) 6 m.sea.l | false => m.encW 5)
     rw [h]
    rw [e1]
    refine ⟨trivial, ?_⟩
    refine ⟨[some 0, some 1, some 2, some 3, some 4, some 5], by first | rfl | trivial, ?_, by first | rfl | trivial, ?_⟩ <;> exact rn
  ·intro _
   have hp := m.encW_pos 6
   have hl := m.encW_le hg 6 (by omega)
   have hf : m.tag.l.length ≤ 120 := m.fd_le hg 6 (by omega)
   have t1 : (m.encW 6).take ((m.encW 6).length * (m.encW 6).length) = m.encW 6 := take_all (.inl (by omega))
   have t2 : (m.encW 6 ++ [UInt8.ofInt 7, UInt8.ofInt (m.tag.l.length : Int)]).take (((m.encW 6).length + 2) * (m.encW 6 ++ [UInt8.ofInt 7, UInt8.ofInt (m.tag.l.length : Int)]).length) = m.encW 6 ++ [UInt8.ofInt 7, UInt8.ofInt (m.tag.l.length : Int)] := take_all (.inl (by omega))
   rw [t1, t2]
   refine ⟨rfl, fork_intro (fun h => ?_) (fun h => ?_)⟩
   ·have e1 : m.encW 6 ++ [UInt8.ofInt 7, UInt8.ofInt (m.tag.l.length : Int)] ++ m.tag.l = m.encW 7 := by
     show _ = (match decide (0 < (m.tag.l.length : Int)) with | true => fieldB (m.encW 6) 7 m.tag.l | false => m.encW 6)
     rw [h]; rfl
    have e2 : (m.encW 6).length + 2 + m.tag.l.length = (m.encW 7).length := by rw [← e1]; simp only [List.length_append, List.length_cons, List.length_nil]
    refine ⟨⟨by omega, by omega⟩, ⟨by simp, by omega⟩, trivial, ?_⟩
    rw [e1, e2]
    refine ⟨[some 0, some 1, some 2, some 3, some 4, some 5], by first | rfl | trivial, ?_, by first | rfl | trivial, ?_⟩ <;> exact rn
   ·have e1 : m.encW 6 = m.encW 7 := by
     show _ = (match decide (0 < (m.tag.l.length : Int)) with | true => fieldB (m.encW 6) 7 m.tag.l | false => m.encW 6)
     rw [h]
    rw [e1]
    refine ⟨trivial, ?_⟩
    refine ⟨[some 0, some 1, some 2, some 3, some 4, some 5], by first | rfl | trivial, ?_, by first | rfl | trivial, ?_⟩ <;> exact rn
  ·intro _
   have hp := m.encW_pos 7
   have hl := m.encW_le hg 7 (by omega)
   have hf : m.tok.l.length ≤ 120 := m.fd_le hg 7 (by omega)
   have t1 : (m.encW 7).take ((m.encW 7).length * (m.encW 7).length) = m.encW 7 := take_all (.inl (by omega))
   have t2 : (m.encW 7 ++ [UInt8.ofInt 8, UInt8.ofInt (m.tok.l.length : Int)]).take (((m.encW 7).length + 2) * (m.encW 7 ++ [UInt8.ofInt 8, UInt8.ofInt (m.tok.l.length : Int)]).length) = m.encW 7 ++ [UInt8.ofInt 8, UInt8.ofInt (m.tok.l.length : Int)] := take_all (.inl (by omega))
   rw [t1, t2]
   refine ⟨rfl, fork_intro (fun h => ?_) (fun h => ?_)⟩
   ·have e1 : m.encW 7 ++ [UInt8.ofInt 8, UInt8.ofInt (m.tok.l.length : Int)] ++ m.tok.l = m.encW 8 := by
     show _ = (match decide (0 < (m.tok.l.length : Int)) with | true => fieldB (m.encW 7) 8 m.tok.l | false => m.encW 7)
     rw [h]; rfl
    have e2 : (m.encW 7).length + 2 + m.tok.l.length = (m.encW 8).length := by rw [← e1]; simp only [List.length_append, List.length_cons, List.length_nil]
    refine ⟨⟨by omega, by omega⟩, ⟨by simp, by omega⟩, trivial, ?_⟩
    rw [e1, e2]
    refine ⟨[some 0, some 1, some 2, some 3, some 4, some 5], by first | rfl | trivial, ?_, by first | rfl | trivial, ?_⟩ <;> exact rn
   ·have e1 : m.encW 7 = m.encW 8 := by
     show _ = (match decide (0 < (m.tok.l.length : Int)) with | true => fieldB (m.encW 7) 8 m.tok.l | false => m.encW 7)
     rw [h]
    rw [e1]
    refine ⟨trivial, ?_⟩
    refine ⟨[some 0, some 1, some 2, some 3, some 4, some 5], by first | rfl | trivial, ?_, by first | rfl | trivial, ?_⟩ <;> exact rn
  ·intro _
   have hp := m.encW_pos 8
   have hl := m.encW_le hg 8 (by omega)
   have hf : m.rcd.l.length ≤ 120 := m.fd_le hg 8 (by omega)
   have t1 : (m.encW 8).take ((m.encW 8).length * (m.encW 8).length) = m.encW 8 := take_all (.inl (by omega))
   have t2 : (m.encW 8 ++ [UInt8.ofInt 9, UInt8.ofInt (m.rcd.l.length : Int)]).take (((m.encW 8).length + 2) * (m.encW 8 ++ [UInt8.ofInt 9, UInt8.ofInt (m.rcd.l.length : Int)]).length) = m.encW 8 ++ [UInt8.ofInt 9, UInt8.ofInt (m.rcd.l.length : Int)] := take_all (.inl (by omega))
   rw [t1, t2]
   refine ⟨rfl, fork_intro (fun h => ?_) (fun h => ?_)⟩
   ·have e1 : m.encW 8 ++ [UInt8.ofInt 9, UInt8.ofInt (m.rcd.l.length : Int)] ++ m.rcd.l = m.encW 9 := by
     show _ = (match decide (0 < (m.rcd.l.length : Int)) with | true => fieldB (m.encW 8) 9 m.rcd.l | false => m.encW 8)
     rw [h]; rfl
    have e2 : (m.encW 8).length + 2 + m.rcd.l.length = (m.encW 9).length := by rw [← e1]; simp only [List.length_append, List.length_cons, List.length_nil]
    refine ⟨⟨by omega, by omega⟩, ⟨by simp, by omega⟩, trivial, ?_⟩
    rw [e1, e2]
    refine ⟨[some 0, some 1, some 2, some 3, some 4, some 5], by first | rfl | trivial, ?_, by first | rfl | trivial, ?_⟩ <;> exact rn
   ·have e1 : m.encW 8 = m.encW 9 := by
     show _ = (match decide (0 < (m.rcd.l.length : Int)) with | true => fieldB (m.encW 8) 9 m.rcd.l | false => m.encW 8)
     rw [h]
    rw [e1]
    refine ⟨trivial, ?_⟩
    refine ⟨[some 0, some 1, some 2, some 3, some 4, some 5], by first | rfl | trivial, ?_, by first | rfl | trivial, ?_⟩ <;> exact rn
  ·intro _
   have hp := m.encW_pos 9
   have hl := m.encW_le hg 9 (by omega)
   have hf : (wholeB m.channel 8).l.length ≤ 120 := m.fd_le hg 9 (by omega)
   have t1 : (m.encW 9).take ((m.encW 9).length * (m.encW 9).length) = m.encW 9 := take_all (.inl (by omega))
   have t2 : (m.encW 9 ++ [UInt8.ofInt 10, UInt8.ofInt ((wholeB m.channel 8).l.length : Int)]).take (((m.encW 9).length + 2) * (m.encW 9 ++ [UInt8.ofInt 10, UInt8.ofInt ((wholeB m.channel 8).l.length : Int)]).length) = m.encW 9 ++ [UInt8.ofInt 10, UInt8.ofInt ((wholeB m.channel 8).l.length : Int)] := take_all (.inl (by omega))
   rw [t1, t2]
   refine ⟨rfl, fork_intro (fun h => ?_) (fun h => ?_)⟩
   ·have e1 : m.encW 9 ++ [UInt8.ofInt 10, UInt8.ofInt ((wholeB m.channel 8).l.length : Int)] ++ (wholeB m.channel 8).l = m.encW 10 := by
     show _ = (match decide (0 < ((wholeB m.channel 8).l.length : Int)) with | true => fieldB (m.encW 9) 10 (wholeB m.channel 8).l | false => m.encW 9)
     rw [h]; rfl
    have e2 : (m.encW 9).length + 2 + (wholeB m.channel 8).l.length = (m.encW 10).length := by rw [← e1]; simp only [List.length_append, List.length_cons, List.length_nil]
    refine ⟨⟨by omega, by omega⟩, ⟨by simp, by omega⟩, trivial, ?_⟩
    rw [e1, e2]
    refine ⟨[some 0, some 1, some 2, some 3, some 4, some 5], by first | rfl | trivial, ?_, by first | rfl | trivial, ?_⟩ <;> exact rn
   ·have e1 : m.encW 9 = m.encW 10 := by
     show _ = (match decide (0 < ((wholeB m.channel 8).l.length : Int)) with | true => fieldB (m.encW 9) 10 (wholeB m.channel 8).l | false => m.encW 9)
     rw [h]
    rw [e1]
    refine ⟨trivial, ?_⟩
    refine ⟨[some 0, some 1, some 2, some 3, some 4, some 5], by first | rfl | trivial, ?_, by first | rfl | trivial, ?_⟩ <;> exact rn
  ·intro _
   have hp := m.encW_pos 10
   have hl := m.encW_le hg 10 (by omega)
   have hf : (wholeB m.e 1).l.length ≤ 120 := m.fd_le hg 10 (by omega)
   have t1 : (m.encW 10).take ((m.encW 10).length * (m.encW 10).length) = m.encW 10 := take_all (.inl (by omega))
   have t2 : (m.encW 10 ++ [UInt8.ofInt 11, UInt8.ofInt ((wholeB m.e 1).l.length : Int)]).take (((m.encW 10).length + 2) * (m.encW 10 ++ [UInt8.ofInt 11, UInt8.ofInt ((wholeB m.e 1).l.length : Int)]).length) = m.encW 10 ++ [UInt8.ofInt 11, UInt8.ofInt ((wholeB m.e 1).l.length : Int)] := take_all (.inl (by omega))
   rw [t1, t2]
   refine ⟨rfl, fork_intro (fun h => ?_) (fun h => ?_)⟩
   ·have e1 : m.encW 10 ++ [UInt8.ofInt 11, UInt8.ofInt ((wholeB m.e 1).l.length : Int)] ++ (wholeB m.e 1).l = m.encW 11 := by
     show _ = (match decide (0 < ((wholeB m.e 1).l.length : Int)) with | true => fieldB (m.encW 10) 11 (wholeB m.e 1).l | false => m.encW 10)
     rw [h]; rfl
    have e2 : (m.encW 10).length + 2 + (wholeB m.e 1).l.length = (m.encW 11).length := by rw [← e1]; simp only [List.length_append, List.length_cons, List.length_nil]
    refine ⟨⟨by omega, by omega⟩, ⟨by simp, by omega⟩, trivial, ?_⟩
    rw [e1, e2]
    refine ⟨[some 0, some 1, some 2, some 3, some 4, some 5], by first | rfl | trivial, ?_, by first | rfl | trivial, ?_⟩ <;> exact rn
   ·have e1 : m.encW 10 = m.encW 11 := by
     show _ = (match decide (0 < ((wholeB m.e 1).l.length : Int)) with | true => fieldB (m.encW 10) 11 (wholeB m.e 1).l | false => m.encW 10)
     rw [h]
    rw [e1]
    refine ⟨trivial, ?_⟩
    refine ⟨[some 0, some 1, some 2, some 3, some 4, some 5], by first | rfl | trivial, ?_, by first | rfl | trivial, ?_⟩ <;> exact rn
  ·have hl := m.encW_le hg 11 (by omega)
   have hp := m.encW_pos 11
   refine fork_intro (fun h2 => ?_) (fun h2 => ?_)
   ·have h2 := of_decide_eq_true h2
    have e : m.isW = false := by rw [Msg.isW, hr, decide_eq_false (by omega)]; rfl
    exact ⟨rfl, rfl, Nat.zero_le _, ⟨.sl true 0 0 (.agg []) true, by rw [e], by rw [Msg.outW, e]⟩, rfl⟩
   ·have h2 := of_decide_eq_false h2
    have e : m.isW = true := by rw [Msg.isW, hr, decide_eq_true (by omega)]; rfl
    refine ⟨⟨rfl, by simp only [List.length_cons, List.length_nil]; omega, by simp only [List.length_cons, List.length_nil]; omega⟩, rfl, rfl, Nat.zero_le _, ⟨_, by rw [e], ?_⟩, rfl⟩
    simp only [Msg.outW, e]; rfl
 ·rintro r h1 ⟨⟨a, rfl, h2⟩, rfl⟩
  exact ⟨_, _, ⟨rfl, rfl⟩, Tell.tup ⟨byD_tell _ _ h2, Tell.refl _, trivial⟩, TellH.refl _⟩
def e17 : SpE := ⟨true, ev1 msgD (fun _ => none) fun m => .tup [m.outW.A, .bool m.isW]⟩
theorem ok17 : SpE.ok Try.prog 17 e17 := ev1_ok kMsg (fun _ => rfl) (fun m _ => fn17 m)
end Go.Abs
