/-
  Own work. Conditions: none. The code of a law in the short form. (Own work; printed by our own program.) The code of a law in the short form. (Own work; printed by our own program.) The code of a law in the short form. (Own work
-/
import Derived.Test.YtmgefdndbcgoiaaOwB
set_option linter.unusedVariables false
set_option linter.unusedSimpArgs false
set_option linter.unnecessarySimpa false
namespace Go.Abs
open Go.Proofs
set_option maxRecDepth 100000
-- sentinel/wire.New
def N26 : Nat := 3
def keep26 : List Nat := [0]
def res26 : List RV := [(.t 0)]
def c26 : CC :=
 (.seq (.reg [⟨(some 0), (.mov (.c .nilp)), none, 2⟩] [])
 (.seq (.reg [⟨(some 1), (.build [(.sl true 0 0 (.agg []) true), (.int 0), (.bool false)] []), none, 2⟩, ⟨(some 2), (.box (.t 1)), none, 2⟩, ⟨(some 0), (.mov (.t 2)), none, 2⟩] [])
 .ret))
theorem o26 : FnOK Try.prog 26 N26 res26 c26 := ⟨_, _, Try.f26.results.toList, [], pures, Try.func26, show _ = some (Try.f26.body.getD .skip) by kernel_rfl, (Array.toArray_toList).symm, by kernel_rfl, by kernel_rfl, by kernel_rfl, by kernel_rfl, follows, callFunc_enter Try.func26 (by kernel_rfl) (by kernel_rfl)⟩
open Go.Proofs
set_option maxRecDepth 100000
-- (*sentinel/wire.Stream).Write
def N28 : Nat := 42
def keep28 : List Nat := [0, 1, 4, 22]
def res28 : List RV := [(.t 4)]
def c28 : CC :=
 (.seq (.reg [⟨(some 4), (.mov (.c (.bool false))), none, 2⟩] [])
 (.seq (.seq (.reg [⟨(some 5), (.mov (.t 0)), none, 2⟩, ⟨(some 6), (.mov (.t 0)), none, 2⟩, ⟨(some 7), (.nilck (.t 6)), none, 2⟩, ⟨(some 8), (.fad 2 (.t 7)), none, 2⟩, ⟨(some 9), (.load none (.t 8)), none, 2⟩, ⟨(some 10), (.mov (.t 9)), none, 2⟩, ⟨(some 11), (.mov (.t 0)), (some (10, false)), 2⟩, ⟨(some 12), (.nilck (.t 11)), (some (10, false)), 2⟩, ⟨(some 13), (.fad 1 (.t 12)), (some (10, false)), 2⟩, ⟨(some 14), (.load none (.t 13)), (some (10, false)), 2⟩, ⟨(some 15), (.bin .geq (.t 14) (.c (.int 100000))), (some (10, false)), 2⟩, ⟨(some 16), (.pick (.t 10) (.c (.bool true)) (.t 15)), none, 2⟩, ⟨(some 17), (.nilck (.t 5)), none, 2⟩, ⟨(some 18), (.fad 2 (.t 17)), none, 2⟩, ⟨none, (.store none (.t 18) (.t 16)), none, 2⟩] [])
 (.seq (.reg [⟨(some 19), (.mov (.t 0)), none, 2⟩, ⟨(some 20), (.nilck (.t 19)), none, 2⟩, ⟨(some 21), (.fad 2 (.t 20)), none, 2⟩, ⟨(some 22), (.load none (.t 21)), none, 2⟩] [])
 (.cond (.t 22)
 (.seq (.reg [⟨(some 4), (.mov (.c (.bool false))), none, 2⟩] [])
 .ret)
 .skip)))
 (.seq (.reg [⟨(some 23), (.mov (.t 0)), none, 2⟩, ⟨(some 24), (.mov (.t 0)), none, 2⟩, ⟨(some 25), (.nilck (.t 24)), none, 2⟩, ⟨(some 26), (.fad 0 (.t 25)), none, 2⟩, ⟨(some 27), (.load none (.t 26)), none, 2⟩, ⟨(some 28), (.mov (.t 1)), none, 2⟩, ⟨(some 29), (.bsl false .other 1 2 [(.sl true 0 0 (.agg []) true)] [(0, (1, (.t 27))), (1, (1, (.t 28)))]), none, 2⟩, ⟨(some 30), (.call (.c (.fn 45 [])) [(.t 29)]), none, 2⟩, ⟨(some 31), (.nilck (.t 23)), none, 2⟩, ⟨(some 32), (.fad 0 (.t 31)), none, 2⟩, ⟨none, (.store none (.t 32) (.t 30)), none, 2⟩] [])
 (.seq (.reg [⟨(some 33), (.mov (.t 0)), none, 2⟩, ⟨(some 34), (.nilck (.t 33)), none, 2⟩, ⟨(some 35), (.fad 1 (.t 34)), none, 2⟩, ⟨(some 36), (.load none (.t 35)), none, 2⟩, ⟨(some 37), (.mov (.t 1)), none, 2⟩, ⟨(some 38), (.len false (.t 37)), none, 2⟩, ⟨(some 39), (.bin .add (.t 36) (.t 38)), none, 2⟩, ⟨(some 40), (.nilck (.t 33)), none, 2⟩, ⟨(some 41), (.fad 1 (.t 40)), none, 2⟩, ⟨none, (.store none (.t 41) (.t 39)), none, 2⟩] [])
 (.seq (.reg [⟨(some 4), (.mov (.c (.bool true))), none, 2⟩] [])
 .ret)))))
theorem o28 : FnOK Try.prog 28 N28 res28 c28 := ⟨_, _, Try.f28.results.toList, [], pures, Try.func28, show _ = some (Try.f28.body.getD .skip) by kernel_rfl, (Array.toArray_toList).symm, by kernel_rfl, by kernel_rfl, by kernel_rfl, by kernel_rfl, follows, callFunc_enter Try.func28 (by kernel_rfl) (by kernel_rfl)⟩
open Go.Proofs
set_option maxRecDepth 100000
-- (*sentinel/wire.Stream).Next
def N30 : Nat := 75
def keep30 : List Nat := [0, 2, 3, 4, 16, 36, 47]
def res30 : List RV := [(.c 2 (some 26)), (.t 3)]
def c30 : CC :=
 (.seq (.reg [⟨(some 2), (.alloc (.agg [(.int 0), (.int 0), (.int 0), (.int 0), (.str []), (.u32 0), (.u32 0), (.u32 0), (.u32 0), (.u32 0), (.u32 0), (.u32 0), (.u32 0), (.u32 0), (.u32 0), (.u32 0), (.u32 0), (.u32 0), (.u32 0), (.u32 0), (.u32 0), (.sl true 0 0 (.agg []) true), (.sl true 0 0 (.agg []) true), (.sl true 0 0 (.agg []) true), (.sl true 0 0 (.agg []) true), (.sl true 0 0 (.agg []) true)])), none, 2⟩, ⟨(some 3), (.mov (.c (.bool false))), none, 2⟩] [])
 (.seq (.seq (.reg [⟨(some 5), (.mov (.t 0)), none, 2⟩, ⟨(some 6), (.nilck (.t 5)), none, 2⟩, ⟨(some 7), (.fad 2 (.t 6)), none, 2⟩, ⟨(some 8), (.load none (.t 7)), none, 2⟩, ⟨(some 9), (.mov (.t 8)), none, 2⟩, ⟨(some 10), (.mov (.t 0)), (some (9, false)), 2⟩, ⟨(some 11), (.nilck (.t 10)), (some (9, false)), 2⟩, ⟨(some 12), (.fad 0 (.t 11)), (some (9, false)), 2⟩, ⟨(some 13), (.load none (.t 12)), (some (9, false)), 2⟩, ⟨(some 14), (.len false (.t 13)), (some (9, false)), 2⟩, ⟨(some 15), (.bin .lss (.t 14) (.c (.int 2))), (some (9, false)), 2⟩, ⟨(some 16), (.pick (.t 9) (.c (.bool true)) (.t 15)), none, 2⟩] [])
 (.cond (.t 16)
 (.seq (.reg [⟨(some 17), (.build [(.int 0), (.int 0), (.int 0), (.int 0), (.str []), (.u32 0), (.u32 0), (.u32 0), (.u32 0), (.u32 0), (.u32 0), (.u32 0), (.u32 0), (.u32 0), (.u32 0), (.u32 0), (.u32 0), (.u32 0), (.u32 0), (.u32 0), (.u32 0), (.sl true 0 0 (.agg []) true), (.sl true 0 0 (.agg []) true), (.sl true 0 0 (.agg []) true), (.sl true 0 0 (.agg []) true), (.sl true 0 0 (.agg []) true)] []), none, 2⟩, ⟨none, (.store (some 26) (.t 2) (.t 17)), none, 2⟩, ⟨(some 3), (.mov (.c (.bool false))), none, 2⟩] [])
 .ret)
 .skip))
 (.seq (.reg [⟨(some 18), (.mov (.t 0)), none, 0⟩, ⟨(some 19), (.nilck (.t 18)), none, 0⟩, ⟨(some 20), (.fad 0 (.t 19)), none, 0⟩, ⟨(some 21), (.load none (.t 20)), none, 1⟩, ⟨(some 22), (.iadS 1 (.t 21) (.c (.int 0))), none, 1⟩, ⟨(some 23), (.load none (.t 22)), none, 1⟩, ⟨(some 24), (.conv .u8i (.t 23)), none, 0⟩, ⟨(some 25), (.bin .shl (.t 24) (.c (.u64 8))), none, 0⟩, ⟨(some 26), (.mov (.t 0)), none, 0⟩, ⟨(some 27), (.nilck (.t 26)), none, 0⟩, ⟨(some 28), (.fad 0 (.t 27)), none, 0⟩, ⟨(some 29), (.load none (.t 28)), none, 1⟩, ⟨(some 30), (.iadS 1 (.t 29) (.c (.int 1))), none, 1⟩, ⟨(some 31), (.load none (.t 30)), none, 1⟩, ⟨(some 32), (.conv .u8i (.t 31)), none, 0⟩, ⟨(some 33), (.bin .or (.t 25) (.t 32)), none, 0⟩, ⟨(some 34), (.bin .add (.c (.int 2)) (.t 33)), none, 0⟩, ⟨(some 4), (.mov (.t 34)), none, 0⟩] [])
 (.seq (.seq (.reg [⟨(some 35), (.mov (.t 4)), none, 2⟩, ⟨(some 36), (.bin .gtr (.t 35) (.c (.int 202))), none, 2⟩] [])
 (.cond (.t 36)
 (.seq (.reg [⟨(some 37), (.mov (.t 0)), none, 2⟩, ⟨(some 38), (.nilck (.t 37)), none, 2⟩, ⟨(some 39), (.fad 2 (.t 38)), none, 2⟩, ⟨none, (.store none (.t 39) (.c (.bool true))), none, 2⟩] [])
 (.seq (.reg [⟨(some 40), (.build [(.int 0), (.int 0), (.int 0), (.int 0), (.str []), (.u32 0), (.u32 0), (.u32 0), (.u32 0), (.u32 0), (.u32 0), (.u32 0), (.u32 0), (.u32 0), (.u32 0), (.u32 0), (.u32 0), (.u32 0), (.u32 0), (.u32 0), (.u32 0), (.sl true 0 0 (.agg []) true), (.sl true 0 0 (.agg []) true), (.sl true 0 0 (.agg []) true), (.sl true 0 0 (.agg []) true), (.sl true 0 0 (.agg []) true)] []), none, 2⟩, ⟨none, (.store (some 26) (.t 2) (.t 40)), none, 2⟩, ⟨(some 3), (.mov (.c (.bool false))), none, 2⟩] [])
 .ret))
 .skip))
 (.seq (.seq (.reg [⟨(some 41), (.mov (.t 0)), none, 2⟩, ⟨(some 42), (.nilck (.t 41)), none, 2⟩, ⟨(some 43), (.fad 0 (.t 42)), none, 2⟩, ⟨(some 44), (.load none (.t 43)), none, 2⟩, ⟨(some 45), (.len false (.t 44)), none, 2⟩, ⟨(some 46), (.mov (.t 4)), none, 2⟩, ⟨(some 47), (.bin .lss (.t 45) (.t 46)), none, 2⟩] [])
 (.cond (.t 47)
 (.seq (.reg [⟨(some 48), (.build [(.int 0), (.int 0), (.int 0), (.int 0), (.str []), (.u32 0), (.u32 0), (.u32 0), (.u32 0), (.u32 0), (.u32 0), (.u32 0), (.u32 0), (.u32 0), (.u32 0), (.u32 0), (.u32 0), (.u32 0), (.u32 0), (.u32 0), (.u32 0), (.sl true 0 0 (.agg []) true), (.sl true 0 0 (.agg []) true), (.sl true 0 0 (.agg []) true), (.sl true 0 0 (.agg []) true), (.sl true 0 0 (.agg []) true)] []), none, 2⟩, ⟨none, (.store (some 26) (.t 2) (.t 48)), none, 2⟩, ⟨(some 3), (.mov (.c (.bool false))), none, 2⟩] [])
 .ret)
 .skip))
 (.seq (.reg [⟨(some 50), (.mov (.t 0)), none, 2⟩, ⟨(some 51), (.nilck (.t 50)), none, 2⟩, ⟨(some 52), (.fad 0 (.t 51)), none, 2⟩, ⟨(some 53), (.load none (.t 52)), none, 2⟩, ⟨(some 54), (.mov (.t 4)), none, 2⟩, ⟨(some 55), (.slcS 1 (.t 53) none (some (.t 54)) none), none, 2⟩, ⟨(some 56), (.call (.c (.fn 20 [])) [(.t 55)]), none, 2⟩, ⟨(some 49), (.mov (.t 56)), none, 2⟩, ⟨(some 57), (.ext (.t 49) 0), none, 2⟩, ⟨(some 58), (.ext (.t 49) 1), none, 2⟩, ⟨none, (.store (some 26) (.t 2) (.t 57)), none, 2⟩, ⟨(some 3), (.mov (.t 58)), none, 2⟩] [])
 (.seq (.reg [⟨(some 59), (.mov (.t 0)), none, 2⟩, ⟨(some 60), (.mov (.t 0)), none, 2⟩, ⟨(some 61), (.mov (.t 0)), none, 2⟩, ⟨(some 62), (.nilck (.t 61)), none, 2⟩, ⟨(some 63), (.fad 0 (.t 62)), none, 2⟩, ⟨(some 64), (.load none (.t 63)), none, 2⟩, ⟨(some 65), (.mov (.t 4)), none, 2⟩, ⟨(some 66), (.slcS 1 (.t 64) (some (.t 65)) none none), none, 2⟩, ⟨(some 67), (.mov (.t 3)), none, 2⟩, ⟨(some 68), (.un .not (.t 67)), none, 2⟩, ⟨(some 69), (.nilck (.t 59)), none, 2⟩, ⟨(some 70), (.fad 0 (.t 69)), none, 2⟩, ⟨none, (.store none (.t 70) (.t 66)), none, 2⟩, ⟨(some 71), (.nilck (.t 60)), none, 2⟩, ⟨(some 72), (.fad 2 (.t 71)), none, 2⟩, ⟨none, (.store none (.t 72) (.t 68)), none, 2⟩] [])
 (.seq (.reg [⟨(some 73), (.load (some 26) (.t 2)), none, 2⟩, ⟨(some 74), (.mov (.t 3)), none, 2⟩, ⟨none, (.store (some 26) (.t 2) (.t 73)), none, 2⟩, ⟨(some 3), (.mov (.t 74)), none, 2⟩] [])
 .ret))))))))
theorem o30 : FnOK Try.prog 30 N30 res30 c30 := ⟨_, _, Try.f30.results.toList, [], pures, Try.func30, show _ = some (Try.f30.body.getD .skip) by kernel_rfl, (Array.toArray_toList).symm, by kernel_rfl, by kernel_rfl, by kernel_rfl, by kernel_rfl, follows, callFunc_enter Try.func30 (by kernel_rfl) (by kernel_rfl)⟩
open Go.Proofs
set_option maxRecDepth 100000
-- (*sentinel/wire.Stream).Bad
def N32 : Nat := 7
def keep32 : List Nat := [0, 2]
def res32 : List RV := [(.t 2)]
def c32 : CC :=
 (.seq (.reg [⟨(some 2), (.mov (.c (.bool false))), none, 2⟩] [])
 (.seq (.reg [⟨(some 3), (.mov (.t 0)), none, 2⟩, ⟨(some 4), (.nilck (.t 3)), none, 2⟩, ⟨(some 5), (.fad 2 (.t 4)), none, 2⟩, ⟨(some 6), (.load none (.t 5)), none, 2⟩, ⟨(some 2), (.mov (.t 6)), none, 2⟩] [])
 .ret))
theorem o32 : FnOK Try.prog 32 N32 res32 c32 := ⟨_, _, Try.f32.results.toList, [], pures, Try.func32, show _ = some (Try.f32.body.getD .skip) by kernel_rfl, (Array.toArray_toList).symm, by kernel_rfl, by kernel_rfl, by kernel_rfl, by kernel_rfl, follows, callFunc_enter Try.func32 (by kernel_rfl) (by kernel_rfl)⟩
open Go.Proofs
set_option maxRecDepth 100000

structure Sw where
 b : By
 n : Int
 bad : Bool
def Sw.A (s : Sw) : AV := .agg [s.b.A, .int s.n, .bool s.bad]
def swD : AV → Option Sw
 | .agg [x, .int n, .bool bad] => match byD x with | some b => some ⟨b, n, bad⟩ | none => none
 | _ => none
theorem swD_tellC (a : AV) (r : Sw) (h : swD a = some r) : TellC a r.A := by
 unfold swD at h
 split at h
 ·split at h
  ·rename_i hb; cases h; exact TellC.agg ⟨byD_tell _ _ hb, Tell.refl _, Tell.refl _, trivial⟩
  ·cases h
 ·cases h
theorem swD_tell (a : AV) (r : Sw) (h : swD a = some r) : Tell a r.A := by
 unfold swD at h
 split at h
 ·split at h
  ·rename_i hb; cases h; exact Tell.agg ⟨byD_tell _ _ hb, Tell.refl _, Tell.refl _, trivial⟩
  ·cases h
 ·cases h
def kSw : Kd Sw := ⟨swD, Sw.A, swD_tell, fun _ => rfl⟩
theorem Sw.eta (r : Sw) : Sw.mk r.b r.n r.bad = r := rfl
def isSw (c : AV) (s : Sw) : Prop := swD c = some s
def Sw.new : Sw := ⟨⟨true, []⟩, 0, false⟩

theorem fn26 : ACalls Try.prog 26 [] [] (fun r h => r = .ptr 0 0 0 ∧ h = [⟨0, Sw.new.A, false⟩]) := by
 refine ACalls.tell (K := fun r h => r = .ptr 0 0 0 ∧ ∃ c, h = [⟨0, c, false⟩] ∧ isSw c Sw.new) ?_ ?_
 ·refine o26.run (Γ := G0 keep26 []) (own := false) (kn := 1) .nil (Nat.le_of_ble_eq_true rfl) rfl (Nat.zero_le _) ?_
  dsimp only [c26, keep26, res26, go_sem, Nat.succ, Int.reduceToNat, Nat.reduceAdd, Nat.reduceMul, Nat.reduceSub, Int.reduceLT, Int.reduceLE, Int.reduceNeg, UInt64.reduceToNat, UInt32.reduceToNat, UInt8.reduceToNat]
  exact ⟨rfl, _, rfl, rfl⟩
 ·rintro a h ⟨h1, c, rfl, h2⟩
  exact ⟨_, _, ⟨h1, rfl⟩, Tell.refl _, ⟨rfl, rfl, swD_tellC _ _ h2⟩, trivial⟩
def eNew : SpE := ⟨true, fun xs h => match xs with
 | [] => .e none (.ptr (hlen h) 0 0) (hsnoc h ⟨0, .agg [By.A ⟨true, []⟩, .int 0, .bool false], false⟩)
 | _ => .no⟩
theorem okNew {g : Nat} (hc : ACalls Try.prog g [] [] (fun r h => r = .ptr 0 0 0 ∧ h = [⟨0, Sw.new.A, false⟩])) : SpE.ok Try.prog g eNew := by
 intro args h
 unfold eNew
 simp only
 split
 ·rename_i C A he; split at he <;> cases he
 ·rename_i C A h1 he
  split at he
  ·cases he
   intro _
   have := acalls_more (P := Try.prog) (f := g) (args := []) rfl (by intro o ho; simp at ho; subst ho; rfl) hc h
   rw [hlen_eq, hsnoc_eq]
   simp only [ren, rho, List.getElem?_nil, List.length_nil, Nat.sub_zero, Nat.add_zero] at this
   exact this
  ·cases he
 ·rename_i C h1 he; split at he <;> cases he
 ·trivial
theorem fn32 (s : Sw) : ACalls Try.prog 32 [.ptr 0 0 0] [⟨0, s.A, false⟩] (fun a h => a = .bool s.bad ∧ h = [⟨0, s.A, false⟩]) := by
 refine o32.run (Γ := GK 1 keep32 []) (own := false) (kn := 1) .nil (Nat.le_of_ble_eq_true rfl) rfl (Nat.le_refl _) ?_
 dsimp only [c32, keep32, res32, Sw.A, go_sem, Nat.succ, Int.reduceToNat, Nat.reduceAdd, Nat.reduceMul, Nat.reduceSub, Int.reduceLT, Int.reduceLE, Int.reduceNeg, UInt64.reduceToNat, UInt32.reduceToNat, UInt8.reduceToNat]
 and_intros <;> first | trivial | rfl
def eBad : SpE := ⟨true, evP swD Sw.A l0D (fun _ _ => none) (fun s _ => .bool s.bad) (fun s _ => s)⟩
theorem ok32 : SpE.ok Try.prog 32 eBad := evP_ok kSw swD_tellC kl0 (fun _ _ => rfl) (fun s _ _ => fn32 s)

def Sw.over (s : Sw) : Bool := s.bad || decide (100000 ≤ s.n)
def Sw.wrote (s : Sw) (b : By) : Sw := match s.over with | true => { s with bad := true } | false => ⟨catB s.b b, w64 (s.n + b.l.length), false⟩
theorem fn28 (s : Sw) (b : By) (hb : s.b.l.length + b.l.length ≤ 1099511627776) : ACalls Try.prog 28 [.ptr 0 0 0, b.A] [⟨0, s.A, false⟩] (fun a h => a = .bool (!s.over) ∧ h = [⟨0, (s.wrote b).A, false⟩]) := by
 refine ACalls.tell (K := fun r h => r = .bool (!s.over) ∧ ∃ c, h = [⟨0, c, false⟩] ∧ isSw c (s.wrote b)) ?_ ?_
 ·refine o28.run (Γ := GK 1 keep28 [(45, e45)]) (own := false) (kn := 1) (.cons ok45 o45.enter .nil) (Nat.le_of_ble_eq_true rfl) rfl (Nat.le_refl _) ?_
  dsimp only [c28, keep28, res28, Sw.A, e45, By.eta, go_sem, Nat.succ, Int.reduceToNat, Nat.reduceAdd, Nat.reduceMul, Nat.reduceSub, Int.reduceLT, Int.reduceLE, Int.reduceNeg, UInt64.reduceToNat, UInt32.reduceToNat, UInt8.reduceToNat]
  have bad : s.over = true → (AV.bool false = AV.bool !s.over ∧ ∃ c, ([⟨0, AV.agg [AV.sl s.b.nil s.b.l.length 1 (AV.ab s.b.l) false, AV.int s.n, AV.bool true], false⟩] : List AO) = [⟨0, c, false⟩] ∧ isSw c (s.wrote b)) := fun h =>
   ⟨by rw [h]; rfl, _, rfl, by rw [Sw.wrote, h]; rfl⟩
  refine fork_intro (fun h => bad (by rw [Sw.over, h]; rfl)) (fun h => fork_intro (fun h2 => ?_) (fun h2 => ?_))
  ·rw [h2]; exact bad (by rw [Sw.over, h2, Bool.or_true])
  ·have ho : s.over = false := by rw [Sw.over, h, h2]; rfl
   refine ⟨hb, by rw [ho]; rfl, _, rfl, ?_⟩
   rw [h2, Sw.wrote, ho]; rfl
 ·rintro a h ⟨h1, c, rfl, h2⟩
  exact ⟨_, _, ⟨h1, rfl⟩, Tell.refl _, ⟨rfl, rfl, swD_tellC _ _ h2⟩, trivial⟩
def e28 : SpE := ⟨true, evP swD Sw.A (l1D byD) (fun s b => some (s.b.l.length + b.l.length ≤ 1099511627776)) (fun s _ => .bool (!s.over)) (fun s b => s.wrote b)⟩
theorem ok28 : SpE.ok Try.prog 28 e28 := evP_ok kSw swD_tellC (kl1 kBy) (fun _ _ => rfl) (fun s b h => fn28 s b h)

def Sw.size (s : Sw) : Nat := 2 + ((s.b.l.getD 0 0).toNat * 256 + (s.b.l.getD 1 0).toNat)
def Sw.way (s : Sw) : Nat := if s.bad = true ∨ s.b.l.length < 2 then 0 else if 202 < s.size then 1 else if s.b.l.length < s.size then 0 else 2
def Sw.head (s : Sw) : By := ⟨s.b.nil, s.b.l.take s.size⟩
def Sw.rest (s : Sw) : By := ⟨s.b.nil, s.b.l.drop s.size⟩
def Sw.told (d : By → Option Msg) (s : Sw) : Option Msg := if s.way = 2 then d s.head else none
def Sw.nextW (d : By → Option Msg) (s : Sw) : Sw := if s.way = 0 then s else if s.way = 1 then { s with bad := true } else ⟨s.rest, s.n, !(d s.head).isSome⟩
def eDec (d : By → Option Msg) : SpE := ⟨true, ev1 byD (fun b => some (b.l.length ≤ 1099511627776)) fun b => .tup [.agg (orZ (d b)).C, .bool (d b).isSome]⟩
theorem w64_size (x y : UInt8) : w64 (2 + ((x.toNat : Int) * 256 + y.toNat)) = ((2 + (x.toNat * 256 + y.toNat) : Nat) : Int) := by
 have hx : x.toNat < 256 := x.toNat_lt
 have hy : y.toNat < 256 := y.toNat_lt
 rw [w64_in (by omega)]; omega
def zeroA : AV := .agg [.int 0, .int 0, .int 0, .int 0, .str [], .u32 0, .u32 0, .u32 0, .u32 0, .u32 0, .u32 0, .u32 0, .u32 0, .u32 0, .u32 0, .u32 0, .u32 0, .u32 0, .u32 0, .u32 0, .u32 0,
 .sl true 0 0 (.agg []) true, .sl true 0 0 (.agg []) true, .sl true 0 0 (.agg []) true, .sl true 0 0 (.agg []) true, .sl true 0 0 (.agg []) true]
theorem Sw.size_eq (s : Sw) : w64 (2 + ior (w64 ((([s.b.l.getD 0 0].getD 0 0).toNat : Int) * 2 ^ min 8 64)) (([s.b.l.getD 1 0].getD 0 0).toNat : Int)) = (s.size : Int) := by
 rw [ior_bytes]; exact w64_size _ _
theorem Sw.size_lt (s : Sw) : s.size < 65538 := by
 have hx : (s.b.l.getD 0 0).toNat < 256 := UInt8.toNat_lt _
 have hy : (s.b.l.getD 1 0).toNat < 256 := UInt8.toNat_lt _
 unfold Sw.size; omega
theorem Sw.way0 {s : Sw} (h : s.bad = true ∨ s.b.l.length < 2) : s.way = 0 := by rw [Sw.way, if_pos h]
theorem Sw.way1 {s : Sw} (h : s.bad = false) (h2 : 2 ≤ s.b.l.length) (h3 : 202 < s.size) : s.way = 1 := by
 rw [Sw.way, if_neg (by rw [h]; simp; omega), if_pos h3]
theorem Sw.way00 {s : Sw} (h : s.bad = false) (h2 : 2 ≤ s.b.l.length) (h3 : ¬ 202 < s.size) (h4 : s.b.l.length < s.size) : s.way = 0 := by
 rw [Sw.way, if_neg (by rw [h]; simp; omega), if_neg h3, if_pos h4]
theorem Sw.way2 {s : Sw} (h : s.bad = false) (h2 : 2 ≤ s.b.l.length) (h3 : ¬ 202 < s.size) (h4 : ¬ s.b.l.length < s.size) : s.way = 2 := by
 rw [Sw.way, if_neg (by rw [h]; simp; omega), if_neg h3, if_neg h4]
set_option maxHeartbeats 2000000 in
theorem fn30 (d : By → Option Msg) (hd : SpE.ok Try.prog 20 (eDec d)) (s : Sw) (hs : s.b.l.length ≤ 1099511627776) : ACalls Try.prog 30 [.ptr 0 0 0] [⟨0, s.A, false⟩] (fun a h => a = .tup [.agg (orZ (s.told d)).C, .bool (s.told d).isSome] ∧ h = [⟨0, (s.nextW d).A, false⟩]) := by
 refine ACalls.tell (K := fun r h => (∃ a, r = .tup [a, .bool (s.told d).isSome] ∧ isMsg a (orZ (s.told d))) ∧ ∃ c, h = [⟨0, c, false⟩] ∧ isSw c (s.nextW d)) ?_ ?_
 ·refine o30.run (Γ := GK 1 keep30 [(20, eDec d)]) (own := false) (kn := 1) (.cons hd o20.enter .nil) (Nat.le_of_ble_eq_true rfl) rfl (Nat.le_refl _) ?_
  dsimp only [c30, keep30, res30, Sw.A, Msg.C, msgD, Msg.eta, eDec, By.eta, go_sem, Nat.succ, Int.reduceToNat, Nat.reduceAdd, Nat.reduceMul, Nat.reduceSub, Int.reduceLT, Int.reduceLE, Int.reduceNeg, UInt64.reduceToNat, UInt32.reduceToNat, UInt8.reduceToNat]
  simp only [s.size_eq, Int.toNat_natCast]
  have t0 : s.way ≠ 2 → s.told d = none := fun h => by rw [Sw.told, if_neg h]
  have n0 : s.way = 0 → ∃ c, ([⟨0, AV.agg [AV.sl s.b.nil s.b.l.length 1 (AV.ab s.b.l) false, AV.int s.n, AV.bool s.bad], false⟩] : List AO) = [⟨0, c, false⟩] ∧ isSw c (s.nextW d) := fun h => ⟨_, rfl, by rw [Sw.nextW, if_pos h]; rfl⟩
  have n1 : s.way = 1 → ∃ c, ([⟨0, AV.agg [AV.sl s.b.nil s.b.l.length 1 (AV.ab s.b.l) false, AV.int s.n, AV.bool true], false⟩] : List AO) = [⟨0, c, false⟩] ∧ isSw c (s.nextW d) := fun h => ⟨_, rfl, by rw [Sw.nextW, if_neg (by omega), if_pos h]; rfl⟩
  have fin0 : s.way = 0 → _ := fun h => And.intro (fin_none (x := zeroA) rfl (t0 (by omega))) (n0 h)
  have fin1 : s.way = 1 → _ := fun h => And.intro (fin_none (x := zeroA) rfl (t0 (by omega))) (n1 h)
  refine fork_intro (fun h => ⟨trivial, trivial, trivial, by omega, fin0 (Sw.way0 (.inl h))⟩) (fun h => fork_intro (fun h2 => ?_) (fun h2 => ?_))
  ·have h2 := of_decide_eq_true h2
   exact ⟨trivial, trivial, trivial, by omega, fin0 (Sw.way0 (.inr (by omega)))⟩
  have h2 := of_decide_eq_false h2
  refine ⟨by omega, by simp, by omega, by simp, fork_intro (fun h3 => ?_) (fun h3 => fork_intro (fun h4 => ?_) (fun h4 => ?_))⟩
  ·have h3 := of_decide_eq_true h3
   exact ⟨trivial, trivial, trivial, by omega, fin1 (Sw.way1 h (by omega) (by omega))⟩
  ·have h3 := of_decide_eq_false h3
   have h4 := of_decide_eq_true h4
   exact ⟨trivial, trivial, trivial, by omega, fin0 (Sw.way00 h (by omega) (by omega) (by omega))⟩
  ·have h3 := of_decide_eq_false h3
   have h4 := of_decide_eq_false h4
   have hw := Sw.way2 h (by omega) (by omega) (by omega)
   refine ⟨by omega, by rw [List.length_take]; omega, trivial, by omega, trivial, trivial, trivial, by omega, ⟨_, by rw [Sw.told, if_pos hw]; rfl, by rw [Sw.told, if_pos hw]; rfl⟩, _, rfl, ?_⟩
   rw [Sw.nextW, if_neg (by omega), if_neg (by omega)]; rfl
 ·rintro a h ⟨⟨a', rfl, h1⟩, c, rfl, h2⟩
  exact ⟨_, _, ⟨rfl, rfl⟩, Tell.tup ⟨msgD_tell _ _ h1, Tell.refl _, trivial⟩, ⟨rfl, rfl, swD_tellC _ _ h2⟩, trivial⟩
def eNextW (d : By → Option Msg) : SpE := ⟨true, evP swD Sw.A l0D (fun s _ => some (s.b.l.length ≤ 1099511627776)) (fun s _ => .tup [.agg (orZ (s.told d)).C, .bool (s.told d).isSome]) (fun s _ => s.nextW d)⟩
theorem ok30 {d : By → Option Msg} (hd : SpE.ok Try.prog 20 (eDec d)) : SpE.ok Try.prog 30 (eNextW d) := evP_ok kSw swD_tellC kl0 (fun _ _ => rfl) (fun s _ h => fn30 d hd s h)
open Go.Proofs
set_option maxRecDepth 100000

theorem k15a : (Msg.mk 7 0 0 0 [] ⟨0, 0, 0, 0, 0, 0, 0, 0⟩ ⟨0, 0, 0, 0, 0, 0, 0, 0⟩ ⟨true, []⟩ ⟨true, []⟩ ⟨true, []⟩ ⟨true, []⟩ ⟨true, []⟩).outW = ⟨false, [0, 1, 7]⟩ := by kernel_rfl
theorem k15b : (Msg.mk 7 0 0 0 [] ⟨0, 0, 0, 0, 0, 0, 0, 0⟩ ⟨0, 0, 0, 0, 0, 0, 0, 0⟩ ⟨true, []⟩ ⟨true, []⟩ ⟨true, []⟩ ⟨true, []⟩ ⟨true, []⟩).isW = true := by kernel_rfl
theorem k15c : (Sw.mk ⟨true, []⟩ 0 false).wrote ⟨false, [0]⟩ = ⟨⟨false, [0]⟩, 1, false⟩ := by kernel_rfl
theorem k15d : (Sw.mk ⟨false, [0]⟩ 1 false).told decW = none := by kernel_rfl
theorem k15e : (Sw.mk ⟨false, [0]⟩ 1 false).nextW decW = ⟨⟨false, [0]⟩, 1, false⟩ := by kernel_rfl
theorem k15f : (Sw.mk ⟨false, [0]⟩ 1 false).wrote ⟨false, [1, 7]⟩ = ⟨⟨false, [0, 1, 7]⟩, 3, false⟩ := by kernel_rfl
theorem k15g : (Sw.mk ⟨false, [0, 1, 7]⟩ 3 false).told decW = some ⟨7, 0, 0, 0, [], Num.zero, Num.zero, By.no, By.no, By.no, By.no, By.no⟩ := by kernel_rfl
theorem k15h : (Sw.mk ⟨false, [0, 1, 7]⟩ 3 false).nextW decW = ⟨⟨false, []⟩, 3, false⟩ := by kernel_rfl
theorem k15i : (Rec.mk 1 [97] ⟨true, []⟩ ⟨0, 0, 0, 0, 0, 0, 0, 0⟩ ⟨0, 0, 0, 0, 0, 0, 0, 0⟩ ⟨true, []⟩ 0 0 0).outW = ⟨false, [1, 1, 97, 0, 0, 0, 0, 0, 0, 0, 0, 0, 0, 0, 0, 0, 0, 0, 0, 0, 0, 0, 0, 0, 0, 0, 0, 0, 0, 0]⟩ := by kernel_rfl
theorem k15j : (Rec.mk 1 [97] ⟨true, []⟩ ⟨0, 0, 0, 0, 0, 0, 0, 0⟩ ⟨0, 0, 0, 0, 0, 0, 0, 0⟩ ⟨true, []⟩ 0 0 0).ok = true := by kernel_rfl
theorem k15k : (readW ⟨false, [1, 1, 97, 0, 0, 0, 0, 0, 0, 0, 0, 0, 0, 0, 0, 0, 0, 0, 0, 0, 0, 0, 0, 0, 0, 0, 0, 0, 0, 0]⟩).isSome = true := by kernel_rfl
theorem k15l : (orZR (readW ⟨false, [1, 1, 97, 0, 0, 0, 0, 0, 0, 0, 0, 0, 0, 0, 0, 0, 0, 0, 0, 0, 0, 0, 0, 0, 0, 0, 0, 0, 0, 0]⟩)).name = [97] := by kernel_rfl
theorem k15m : (if ((3 : Nat) : Int) < 1 then ((3 : Nat) : Int) else 1) = 1 := by decide
set_option maxHeartbeats 4000000 in
theorem fn15 : ACalls Try.prog 15 [] [] (fun a h => a = .bool true ∧ h = []) := by
 refine o15.run (Γ := G0 keep15 [(17, e17), (26, eNew), (28, e28), (30, eNextW decW), (32, eBad), (35, e35), (37, e37)]) (own := false) (kn := 0) (.cons ok17 o17.enter (.cons (okNew fn26) o26.enter (.cons ok28 o28.enter (.cons (ok30 ok20) o30.enter (.cons ok32 o32.enter (.cons ok35 o35.enter (.cons ok37 o37.enter .nil))))))) (Nat.le_of_ble_eq_true rfl) rfl (Nat.le_refl _) ?_
 dsimp only [c15, keep15, res15, e17, eNew, e28, eNextW, eBad, e35, e37, Num.eta, By.eta, msgD, swD, recD, Sw.A, Sw.eta, Rec.eta, Msg.eta, Msg.C, Rec.C, go_sem, Nat.succ, Int.reduceToNat, Nat.reduceAdd, Nat.reduceMul, Nat.reduceSub, Int.reduceLT, Int.reduceLE, Int.reduceNeg, UInt64.reduceToNat, UInt32.reduceToNat, UInt8.reduceToNat]
 simp only [k15a, k15b, List.length_cons, List.length_nil, Nat.zero_add, Nat.reduceAdd, k15m, Int.toNat_one, List.take_succ_cons, List.take_zero, List.drop_succ_cons, List.drop_zero, k15c, k15d, k15e, k15f, k15g, k15h, k15i, k15j, k15k, k15l]
 dsimp only [orZ, Option.isSome, Bool.not_false, Bool.not_true, Msg.zero, fork_true, fork_false]
 simp [fork]
def e15 : SpE := ⟨true, ev0 (.bool true)⟩
theorem ok15 : SpE.ok Try.prog 15 e15 := ev0_ok rfl fn15
open Go.Proofs
set_option maxRecDepth 100000

def cutN (n : Int) (l : List UInt8) (most : Int) : Nat := (within1 n (w64 ((if most < (l.length : Int) then most else (l.length : Int)) + 1))).toNat
def cutB (n : Int) (l : List UInt8) (most : Int) : By := ⟨Nat.beq (cutN n l most) 0, List.take (cutN n l most) (List.drop 0 (List.take (cutN n l most) l))⟩
def recM (n : Int) (s : List UInt8) (b : By) : Rec :=
 ⟨w64 (1 + within1 n 2), nameL s, cutB n b.l 16, Num.from (within1 (w64 (n.tdiv 2)) 4294967296), Num.from (within1 (w64 (n.tdiv 7)) 4294967296), cutB (w64 (n.tdiv 3)) b.l 48, within1 (w64 (n.tdiv 11)) 6, within1 (w64 (n.tdiv 13)) 1000, within1 (w64 (n.tdiv 17)) 1099511627776⟩
theorem cut_in (n : Int) (l : List UInt8) (most : Int) (hm : 0 ≤ most ∧ most ≤ 1000) : (0 < w64 ((if most < (l.length : Int) then most else (l.length : Int)) + 1) ∧ w64 ((if most < (l.length : Int) then most else (l.length : Int)) + 1) < 2 ^ 62) ∧ within1 n (w64 ((if most < (l.length : Int) then most else (l.length : Int)) + 1)) = cutN n l most ∧ cutN n l most ≤ l.length ∧ (cutN n l most : Int) ≤ most := by
 have e : w64 ((if most < (l.length : Int) then most else (l.length : Int)) + 1) = (if most < (l.length : Int) then most else (l.length : Int)) + 1 := w64_in (by split <;> omega)
 unfold cutN
 rw [e]
 have h : 0 < (if most < (l.length : Int) then most else (l.length : Int)) + 1 := by split <;> omega
 have h2 := within1_in (a := n) h
 generalize within1 n ((if most < (l.length : Int) then most else (l.length : Int)) + 1) = w at *
 split at h2 <;> rename_i k <;> simp only [k, if_true, if_false] <;> omega
set_option maxHeartbeats 4000000 in
theorem fn34 (n : Int) (s : List UInt8) (b : By) (hs : s.length ≤ 1099511627776) (hb : b.l.length ≤ 1099511627776) : ACalls Try.prog 34 [.int n, .str s, b.A] [] (fun a h => a = .agg (recM n s b).C ∧ h = []) := by
 refine ACalls.tell (K := fun a h => isRec a (recM n s b) ∧ h = []) ?_ ?_
 ·refine o34.run (Γ := G0 keep34 [(22, e22), (24, e24), (42, e42)]) (own := false) (kn := 0) (.cons ok22 o22.enter (.cons ok24 o24.enter (.cons ok42 o42.enter .nil))) (Nat.le_of_ble_eq_true rfl) rfl (Nat.le_refl _) ?_
  dsimp only [c34, keep34, res34, e22, e24, e42, Num.eta, By.eta, By.A, isRec, recD, go_sem, Nat.succ, Int.reduceToNat, Nat.reduceAdd, Nat.reduceMul, Nat.reduceSub, Int.reduceLT, Int.reduceLE, Int.reduceNeg, UInt64.reduceToNat, UInt32.reduceToNat, UInt8.reduceToNat]
  obtain ⟨p1, p2, p3, p4⟩ := cut_in n b.l 16 (by omega)
  obtain ⟨q1, q2, q3, q4⟩ := cut_in (w64 (n.tdiv 3)) b.l 48 (by omega)
  have hk1 : cutN n b.l 16 ≤ (List.take (cutN n b.l 16) b.l).length := by simp; omega
  have hk2 : cutN (w64 (n.tdiv 3)) b.l 48 ≤ (List.take (cutN (w64 (n.tdiv 3)) b.l 48) b.l).length := by simp; omega
  rw [p2, q2]
  simp only [Int.toNat_natCast, Nat.zero_add]
  refine ⟨by omega, hs, by omega, by omega, by omega, by omega, by omega, by omega, by omega, by omega, by omega, by omega, by trivial, p1, by omega, by omega, by omega, q1, by omega, by omega, by trivial, ⟨hk1, hk2⟩, by trivial, by trivial, by omega, ?_, by trivial⟩
  rfl
 ·rintro a h ⟨h1, rfl⟩
  exact ⟨_, _, ⟨rfl, rfl⟩, recD_tell _ _ h1, TellH.refl _⟩
def e34 : SpE := ⟨true, ev3 intD strD byD (fun _ s b => some (s.length ≤ 1099511627776 ∧ b.l.length ≤ 1099511627776)) fun n s b => .agg (recM n s b).C⟩
theorem ok34 : SpE.ok Try.prog 34 e34 := ev3_ok kInt kStr kBy (fun _ _ _ => rfl) (fun n s b h => fn34 n s b h.1 h.2)
open Go.Proofs
set_option maxRecDepth 100000

def By.O (b : By) : AV := .ob b.nil b.l
def byO : AV → Option By
 | .ob nl l => some ⟨nl, l⟩
 | .sl true n sz (.agg []) fl => some ⟨true, []⟩
 | _ => none
theorem byO_tell (a : AV) (b : By) (h : byO a = some b) : Tell a b.O := by
 unfold byO at h
 split at h
 ·cases h; exact Tell.refl _
 ·cases h
  intro E v r
  simp only [rel, if_true] at r
  simp only [By.O, rel, relO8, if_true]
  exact ⟨r.1, trivial⟩
 ·cases h
def kByO : Kd By := ⟨byO, By.O, byO_tell, fun _ => rfl⟩
theorem fn64o (b : By) (hb : b.l.length ≤ 1099511627776) : ACalls Try.prog 64 [b.A] [] (fun r h => r = b.O ∧ h = []) := by
 refine by_have fun hn => ACalls.own (nl := b.nil) (l := b.l) ?_
 cases hb0 : b.nil with
 | true =>
   refine o64.run (Γ := G0 keep64 []) (own := true) (kn := 0) .nil (Nat.le_of_ble_eq_true rfl) rfl (Nat.zero_le _) ?_
   dsimp only [c64, keep64, res64, go_sem, Nat.succ, Int.reduceToNat, Nat.reduceAdd, Nat.reduceMul, Nat.reduceSub, Int.reduceLT, Int.reduceLE, Int.reduceNeg, UInt64.reduceToNat, UInt32.reduceToNat, UInt8.reduceToNat]
   refine fork_intro (fun h => ?_) (fun h => by rw [hb0] at h; cases h)
   exact .inl ⟨rfl, rfl, rfl, hn hb0⟩
 | false =>
   refine o64.run (Γ := G0 keep64 []) (own := true) (kn := 1) .nil (Nat.le_of_ble_eq_true rfl) rfl (Nat.zero_le _) ?_
   dsimp only [c64, keep64, res64, go_sem, Nat.succ, Int.reduceToNat, Nat.reduceAdd, Nat.reduceMul, Nat.reduceSub, Int.reduceLT, Int.reduceLE, Int.reduceNeg, UInt64.reduceToNat, UInt32.reduceToNat, UInt8.reduceToNat]
   refine fork_intro (fun h => by rw [hb0] at h; cases h) (fun h => ?_)
   exact ⟨by omega, .inr ⟨0, rfl, rfl, rfl⟩⟩
def e64o : SpE := ⟨true, ev1 byD (fun b => some (b.l.length ≤ 1099511627776)) fun b => b.O⟩
theorem ok64o : SpE.ok Try.prog 64 e64o := ev1_ok kBy (fun _ => rfl) (fun b h => fn64o b h)
theorem fn51o (r : Rd) (n : Int) (hr : r.b.l.length ≤ 1099511627776) : ACalls Try.prog 51 [.ptr 0 0 0, .int n] [⟨0, r.A, false⟩] (fun a h => a = (r.got n).O ∧ h = [⟨0, (r.next n).A, false⟩]) := by
 refine ACalls.tell (K := fun a h => byO a = some (r.got n) ∧ ∃ c, h = [⟨0, c, false⟩] ∧ rdD c = some (r.next n)) ?_ ?_
 ·refine o51.run (Γ := GK 1 keep51 [(64, e64o)]) (own := false) (kn := 1) (.cons ok64o o64.enter .nil) (Nat.le_of_ble_eq_true rfl) rfl (Nat.le_refl _) ?_
  dsimp only [c51, keep51, res51, Rd.A, e64o, By.O, By.eta, go_sem, Nat.succ, Int.reduceToNat, Nat.reduceAdd, Nat.reduceMul, Nat.reduceSub, Int.reduceLT, Int.reduceLE, Int.reduceNeg, UInt64.reduceToNat, UInt32.reduceToNat, UInt8.reduceToNat]
  have bad : r.fits n = false → (some { nil := true, l := [] } = some (r.got n) ∧ ∃ c, ([⟨0, AV.agg [AV.sl true 0 0 (AV.agg []) true, AV.bool true], false⟩] : List AO) = [⟨0, c, false⟩] ∧ rdD c = some (r.next n)) := fun h =>
   ⟨by rw [Rd.got, h], _, rfl, by rw [Rd.next, h]; rfl⟩
  refine fork_intro (fun h => bad (by rw [Rd.fits, h]; rfl)) (fun h => fork_intro (fun h2 => bad (by rw [Rd.fits, h2]; simp)) (fun h2 => ?_))
  have hf : r.fits n = true := by rw [Rd.fits, h, h2]; rfl
  have h := of_decide_eq_false h
  have h2 := of_decide_eq_false h2
  refine ⟨by omega, by omega, by rw [List.length_take]; omega, by rw [Rd.got, hf]; rfl, _, rfl, ?_⟩
  rw [Rd.next, hf]; rfl
 ·rintro a h ⟨h1, c, rfl, h2⟩
  exact ⟨_, _, ⟨rfl, rfl⟩, byO_tell _ _ h1, ⟨rfl, rfl, rdD_tellC _ _ h2⟩, trivial⟩
def e51o : SpE := ⟨true, evP rdD Rd.A (l1D intD) (fun r _ => some (r.b.l.length ≤ 1099511627776)) (fun r n => (r.got n).O) (fun r n => r.next n)⟩
theorem ok51o : SpE.ok Try.prog 51 e51o := evP_ok kRd rdD_tellC (kl1 kInt) (fun _ _ => rfl) (fun r n h => fn51o r n h)
theorem fn54o (r : Rd) (hr : r.b.l.length ≤ 1099511627776) : ACalls Try.prog 54 [.ptr 0 0 0] [⟨0, r.A, false⟩] (fun a h => a = r.long.O ∧ h = [⟨0, r.nextL.A, false⟩]) := by
 have h2 := r.next_le 1
 refine o54.run (Γ := GK 1 keep54 [(51, e51o), (52, e52)]) (own := false) (kn := 1) (.cons ok51o o51.enter (.cons ok52 o52.enter .nil)) (Nat.le_of_ble_eq_true rfl) rfl (Nat.le_refl _) ?_
 dsimp only [c54, keep54, res54, Rd.A, rdD, e51o, e52, By.eta, Rd.eta, go_sem, Nat.succ, Int.reduceToNat, Nat.reduceAdd, Nat.reduceMul, Nat.reduceSub, Int.reduceLT, Int.reduceLE, Int.reduceNeg, UInt64.reduceToNat, UInt32.reduceToNat, UInt8.reduceToNat]
 and_intros <;> first | trivial | rfl | omega
def e54o : SpE := ⟨true, evP rdD Rd.A l0D (fun r _ => some (r.b.l.length ≤ 1099511627776)) (fun r _ => r.long.O) (fun r _ => r.nextL)⟩
theorem ok54o : SpE.ok Try.prog 54 e54o := evP_ok kRd rdD_tellC kl0 (fun _ _ => rfl) (fun r n h => fn54o r h)
def Msg.Co (m : Msg) : List AV := [.int m.kind, .int m.proto, .int m.channel, .int m.e, .str m.name, .u32 m.a.a0, .u32 m.a.a1, .u32 m.a.a2, .u32 m.a.a3, .u32 m.a.a4, .u32 m.a.a5, .u32 m.a.a6, .u32 m.a.a7,
 .u32 m.b.a0, .u32 m.b.a1, .u32 m.b.a2, .u32 m.b.a3, .u32 m.b.a4, .u32 m.b.a5, .u32 m.b.a6, .u32 m.b.a7, m.salt.O, m.sea.O, m.tag.O, m.tok.O, m.rcd.O]
def msgO : AV → Option Msg
 | .agg [.int k, .int p, .int c, .int e, .str s, .u32 a0, .u32 a1, .u32 a2, .u32 a3, .u32 a4, .u32 a5, .u32 a6, .u32 a7, .u32 b0, .u32 b1, .u32 b2, .u32 b3, .u32 b4, .u32 b5, .u32 b6, .u32 b7, x1, x2, x3, x4, x5] =>
   match byO x1 with
   | some y1 => match byO x2 with
     | some y2 => match byO x3 with
       | some y3 => match byO x4 with
         | some y4 => match byO x5 with
           | some y5 => some ⟨k, p, c, e, s, ⟨a0, a1, a2, a3, a4, a5, a6, a7⟩, ⟨b0, b1, b2, b3, b4, b5, b6, b7⟩, y1, y2, y3, y4, y5⟩
           | none => none
         | none => none
       | none => none
     | none => none
   | none => none
 | _ => none
theorem msgO_tellC (a : AV) (m : Msg) (h : msgO a = some m) : TellC a (.agg m.Co) := by
 unfold msgO at h
 split at h
 ·split at h
  ·rename_i h1
   split at h
   ·rename_i h2
    split at h
    ·rename_i h3
     split at h
     ·rename_i h4
      split at h
      ·rename_i h5
       cases h
       refine TellC.agg ?_
       simp only [Msg.Co, TellL]
       exact ⟨Tell.refl _, Tell.refl _, Tell.refl _, Tell.refl _, Tell.refl _, Tell.refl _, Tell.refl _, Tell.refl _, Tell.refl _, Tell.refl _, Tell.refl _, Tell.refl _, Tell.refl _, Tell.refl _, Tell.refl _, Tell.refl _,
        Tell.refl _, Tell.refl _, Tell.refl _, Tell.refl _, Tell.refl _, byO_tell _ _ h1, byO_tell _ _ h2, byO_tell _ _ h3, byO_tell _ _ h4, byO_tell _ _ h5, trivial⟩
      ·cases h
     ·cases h
    ·cases h
   ·cases h
  ·cases h
 ·cases h
theorem msgO_tell (a : AV) (m : Msg) (h : msgO a = some m) : Tell a (.agg m.Co) := by
 unfold msgO at h
 split at h
 ·split at h
  ·rename_i h1
   split at h
   ·rename_i h2
    split at h
    ·rename_i h3
     split at h
     ·rename_i h4
      split at h
      ·rename_i h5
       cases h
       refine Tell.agg ?_
       simp only [Msg.Co, TellL]
       exact ⟨Tell.refl _, Tell.refl _, Tell.refl _, Tell.refl _, Tell.refl _, Tell.refl _, Tell.refl _, Tell.refl _, Tell.refl _, Tell.refl _, Tell.refl _, Tell.refl _, Tell.refl _, Tell.refl _, Tell.refl _, Tell.refl _,
        Tell.refl _, Tell.refl _, Tell.refl _, Tell.refl _, Tell.refl _, byO_tell _ _ h1, byO_tell _ _ h2, byO_tell _ _ h3, byO_tell _ _ h4, byO_tell _ _ h5, trivial⟩
      ·cases h
     ·cases h
    ·cases h
   ·cases h
  ·cases h
 ·cases h
def kMsgO : Kd Msg := ⟨msgO, fun m => .agg m.Co, msgO_tell, fun _ => rfl⟩
set_option maxHeartbeats 4000000 in
theorem fn53o (m : Msg) (k : Int) (b : By) (hb : b.l.length ≤ 1099511627776) : ACalls Try.prog 53 [.ptr 0 0 0, .int k, b.O] [⟨0, .agg m.Co, false⟩] (fun a h => a = .bool (decide (1 ≤ k) && decide (k ≤ 11)) ∧ h = [⟨0, .agg (m.put k b).Co, false⟩]) := by
 refine ACalls.tell (K := fun a h => a = .bool (decide (1 ≤ k) && decide (k ≤ 11)) ∧ ∃ c, h = [⟨0, c, false⟩] ∧ msgO c = some (m.put k b)) ?_ ?_
 ·refine o53.run (Γ := GK 1 keep53 [(52, e52), (67, e67)]) (own := false) (kn := 1) (.cons ok52 o52.enter (.cons ok67 o67.enter .nil)) (Nat.le_of_ble_eq_true rfl) rfl (Nat.le_refl _) ?_
  dsimp only [c53, keep53, res53, Msg.Co, By.O, rdD, e52, e67, By.eta, Rd.eta, Rd.A, go_sem, Nat.succ, Int.reduceToNat, Nat.reduceAdd, Nat.reduceMul, Nat.reduceSub, Int.reduceLT, Int.reduceLE, Int.reduceNeg, UInt64.reduceToNat, UInt32.reduceToNat, UInt8.reduceToNat]
  refine fork_intro (fun h => ?_) (fun h1 => ?_)
  ·obtain rfl : k = 1 := eq_of_beq h
   and_intros <;> first | exact hb | rfl | trivial | omega | exact ⟨_, rfl, rfl⟩
  refine fork_intro (fun h => ?_) (fun h2 => ?_)
  ·obtain rfl : k = 2 := eq_of_beq h
   and_intros <;> first | exact hb | rfl | trivial | omega | exact ⟨_, rfl, rfl⟩
  refine fork_intro (fun h => ?_) (fun h3 => ?_)
  ·obtain rfl : k = 3 := eq_of_beq h
   and_intros <;> first | exact hb | rfl | trivial | omega | exact ⟨_, rfl, rfl⟩
  refine fork_intro (fun h => ?_) (fun h4 => ?_)
  ·obtain rfl : k = 4 := eq_of_beq h
   and_intros <;> first | exact hb | rfl | trivial | omega | exact ⟨_, rfl, rfl⟩
  refine fork_intro (fun h => ?_) (fun h5 => ?_)
  ·obtain rfl : k = 5 := eq_of_beq h
   and_intros <;> first | exact hb | rfl | trivial | omega | exact ⟨_, rfl, rfl⟩
  refine fork_intro (fun h => ?_) (fun h6 => ?_)
  ·obtain rfl : k = 6 := eq_of_beq h
   and_intros <;> first | exact hb | rfl | trivial | omega | exact ⟨_, rfl, rfl⟩
  refine fork_intro (fun h => ?_) (fun h7 => ?_)
  ·obtain rfl : k = 7 := eq_of_beq h
   and_intros <;> first | exact hb | rfl | trivial | omega | exact ⟨_, rfl, rfl⟩
  refine fork_intro (fun h => ?_) (fun h8 => ?_)
  ·obtain rfl : k = 8 := eq_of_beq h
   and_intros <;> first | exact hb | rfl | trivial | omega | exact ⟨_, rfl, rfl⟩
  refine fork_intro (fun h => ?_) (fun h9 => ?_)
  ·obtain rfl : k = 9 := eq_of_beq h
   and_intros <;> first | exact hb | rfl | trivial | omega | exact ⟨_, rfl, rfl⟩
  refine fork_intro (fun h => ?_) (fun h10 => ?_)
  ·obtain rfl : k = 10 := eq_of_beq h
   and_intros <;> first | exact hb | rfl | trivial | omega | exact ⟨_, rfl, rfl⟩
  refine fork_intro (fun h => ?_) (fun h11 => ?_)
  ·obtain rfl : k = 11 := eq_of_beq h
   and_intros <;> first | exact hb | rfl | trivial | omega | exact ⟨_, rfl, rfl⟩
  simp only [beq_eq_false_iff_ne, ne_eq] at *
  have e : (decide (1 ≤ k) && decide (k ≤ 11)) = false := by
   rw [Bool.and_eq_false_iff, decide_eq_false_iff_not, decide_eq_false_iff_not]; omega
  and_intros <;> first | exact hb | rfl | trivial | omega | (rw [e]; done) | skip
  refine ⟨_, rfl, ?_⟩
  simp only [Msg.put, *, if_false]
  rfl
 ·rintro a h ⟨h1, c, rfl, h2⟩
  exact ⟨_, _, ⟨h1, rfl⟩, Tell.refl _, ⟨rfl, rfl, msgO_tellC _ _ h2⟩, trivial⟩
def e53o : SpE := ⟨true, evP msgO (fun m => .agg m.Co) (l2D intD byO) (fun _ x => some (x.2.l.length ≤ 1099511627776)) (fun _ x => .bool (decide (1 ≤ x.1) && decide (x.1 ≤ 11))) (fun m x => m.put x.1 x.2)⟩
theorem ok53o : SpE.ok Try.prog 53 e53o := evP_ok kMsgO msgO_tellC (kl2 kInt kByO) (fun _ _ => rfl) (fun m x h => fn53o m x.1 x.2 h)
def isMsgO (a : AV) (m : Msg) : Prop := msgO a = some m
theorem fino_none {x : AV} {d : Option Msg} (hx : isMsgO x Msg.zero) (e : d = none) : ∃ a, AV.tup [x, .bool false] = .tup [a, .bool d.isSome] ∧ isMsgO a (orZ d) := ⟨x, by rw [e]; rfl, by rw [e]; exact hx⟩
theorem fino_some {x : AV} {d : Option Msg} {m : Msg} (hx : isMsgO x m) (e : d = some m) : ∃ a, AV.tup [x, .bool true] = .tup [a, .bool d.isSome] ∧ isMsgO a (orZ d) := ⟨x, by rw [e]; rfl, by rw [e]; exact hx⟩
def L20o (b : By) : LI where
 X := Msg × Rd
 x0 := (msg0 b, rd0 b)
 pre x := x.2.b.l.length ≤ 1099511627776 ∧ decLoop x.2.b.l.length x.1 x.2 = decLoop (rd0 b).b.l.length (msg0 b) (rd0 b)
 inv x := ([(0, b.A), (2, .ptr 0 0 0), (3, .bool false), (4, .ptr 1 0 0), (5, .ptr 2 0 0)], [⟨0, .agg Msg.zero.Co, false⟩, ⟨0, x.2.A, false⟩, ⟨0, .agg x.1.Co, false⟩])
 mu x := x.2.b.l.length
 ren := false
set_option maxHeartbeats 4000000 in
theorem fn20o (b : By) (hb : b.l.length ≤ 1099511627776) : ACalls Try.prog 20 [b.A] [] (fun r h => r = .tup [.agg (orZ (decW b)).Co, .bool (decW b).isSome] ∧ h = []) := by
 refine ACalls.tell (K := fun r h => (∃ a, r = .tup [a, .bool (decW b).isSome] ∧ isMsgO a (orZ (decW b))) ∧ h = []) ?_ ?_
 ·refine o20.run (Γ := GL keep20 [(17, e17), (51, e51), (52, e52), (53, e53o), (54, e54o), (55, e55)] fun _ => L20o b) (own := false) (kn := 0) (.cons ok17 o17.enter (.cons ok51 o51.enter (.cons ok52 o52.enter (.cons ok53o o53.enter (.cons ok54o o54.enter (.cons ok55 o55.enter .nil)))))) (Nat.le_of_ble_eq_true rfl) rfl (Nat.le_refl _) ?_
  dsimp only [c20, keep20, res20, L20o, Msg.Co, By.O, Rd.A, rdD, byO, msgO, msgD, e17, e51, e52, e53o, e54o, e55, Num.eta, By.eta, Rd.eta, Msg.eta, go_sem, Nat.succ, Int.reduceToNat, Nat.reduceAdd, Nat.reduceMul, Nat.reduceSub, Int.reduceLT, Int.reduceLE, Int.reduceNeg, UInt64.reduceToNat, UInt32.reduceToNat, UInt8.reduceToNat]
  have n2 := (Rd.mk b false).next_le 2
  have n1 := ((Rd.mk b false).next 2).next_le 1
  have hb' : (Rd.mk b false).b.l.length ≤ 1099511627776 := hb
  refine ⟨hb, by omega, rfl, ⟨⟨?_, ?_⟩, ?_, rfl⟩, fun x hx => ?_⟩
  ·and_intros <;> first | rfl | trivial
  ·refine ⟨⟨rfl, rfl, .tell (msgO_tellC _ Msg.zero rfl)⟩, ⟨rfl, rfl, .inl rfl⟩, ⟨rfl, rfl, .tell (msgO_tellC _ (msg0 b) rfl)⟩, trivial⟩
  ·show ((Rd.mk b false).next 2 |>.next 1).b.l.length ≤ _; omega
  obtain ⟨m, r⟩ := x
  obtain ⟨hx1, hx2⟩ := hx
  simp only at hx1 hx2 ⊢
  have s1 := r.next_le 1
  have s2 := (r.next 1).next_le 1
  have s3 := ((r.next 1).next 1).next_le ((r.next 1).num 1).i64
  have s4 := ((r.next 1).next 1).got_le ((r.next 1).num 1).i64
  have lst : ∀ d, decLoop (rd0 b).b.l.length (msg0 b) (rd0 b) = d → decW b = match d with | some m => (match m.isW && (m.outW.l == b.l) with | true => some m | false => none) | none => none := fun d hd => by rw [decW, hd] <;> rfl
  have ends : (r.bad || r.b.l.isEmpty) = true → decLoop (rd0 b).b.l.length (msg0 b) (rd0 b) = some m := fun h => by
   rw [← hx2]
   cases r.b.l.length with
   | zero => rfl
   | succ n => rw [decLoop, h]
  have stop : (r.bad || r.b.l.isEmpty) = true → decW b = (match m.isW && (m.outW.l == b.l) with | true => some m | false => none) := fun h => lst _ (ends h)
  have go : (r.bad || r.b.l.isEmpty) = false → ∃ n, r.b.l.length = n + 1 ∧ decLoop (rd0 b).b.l.length (msg0 b) (rd0 b) = (match decide (1 ≤ (r.num 1).i64) && decide ((r.num 1).i64 ≤ 11) with
    | true => decLoop n (m.put (r.num 1).i64 (r.next 1).long) (r.next 1).nextL | false => none) := fun h => by
   rw [← hx2]
   cases hl : r.b.l.length with
   | zero => rw [List.eq_nil_of_length_eq_zero hl] at h; simp at h
   | succ n => exact ⟨n, rfl, by rw [decLoop, h] <;> rfl⟩
  refine fork_intro (fun h => fork_intro (fun h2 => ?_) (fun h2 => ?_)) (fun h => ?_)
  ·have h2 := of_decide_eq_true h2
   have hbe : (r.bad || r.b.l.isEmpty) = false := by
    rw [not_t h, Bool.false_or]
    cases hl : r.b.l with
    | nil => rw [hl] at h2; simp at h2
    | cons a l => rfl
   obtain ⟨n, hn, hd⟩ := go hbe
   refine ⟨hx1, by omega, by show ((r.next 1).next 1 |>.got ((r.next 1).num 1).i64).l.length ≤ _; omega, fork_intro (fun h3 => ?_) (fun h3 => ?_)⟩
   ·rw [not_t h3] at hd
    have e := lst _ hd
    and_intros <;> first | trivial | exact Nat.zero_le _ | exact fino_none rfl e
   ·rw [not_f h3] at hd
    have hlt := next_lt r (by intro e; rw [e] at h2; simp at h2)
    refine ⟨(m.put (r.num 1).i64 (r.next 1).long, (r.next 1).nextL), ⟨by simp only; omega, ?_⟩, hlt, ?_, ?_⟩
    ·rw [hd]
     have := decLoop_more (r.next 1).nextL.b.l.length (n - (r.next 1).nextL.b.l.length) (m.put (r.num 1).i64 (r.next 1).long) (r.next 1).nextL (Nat.le_refl _)
     rw [show (r.next 1).nextL.b.l.length + (n - (r.next 1).nextL.b.l.length) = n by omega] at this
     exact this.symm
    ·and_intros <;> trivial
    ·and_intros <;> first | trivial | exact .inl rfl
  ·have h2 := of_decide_eq_false h2
   have hl : r.b.l = [] := List.eq_nil_of_length_eq_zero (by omega)
   have e := stop (by rw [hl]; simp)
   refine fork_intro (fun h3 => ?_) (fun h3 => fork_intro (fun h4 => ?_) (fun h4 => ?_))
   ·rw [not_t h3, Bool.false_and] at e
    and_intros <;> first | trivial | exact Nat.zero_le _ | exact fino_none rfl e
   ·rw [not_f h3, not_t h4, Bool.true_and] at e
    and_intros <;> first | trivial | exact Nat.zero_le _ | exact fino_none rfl e
   ·rw [not_f h3, not_f h4, Bool.true_and] at e
    and_intros <;> first | trivial | exact Nat.zero_le _ | exact fino_some rfl e
  ·have e := stop (by rw [not_f h]; rfl)
   refine fork_intro (fun h3 => ?_) (fun h3 => fork_intro (fun h4 => ?_) (fun h4 => ?_))
   ·rw [not_t h3, Bool.false_and] at e
    and_intros <;> first | trivial | exact Nat.zero_le _ | exact fino_none rfl e
   ·rw [not_f h3, not_t h4, Bool.true_and] at e
    and_intros <;> first | trivial | exact Nat.zero_le _ | exact fino_none rfl e
   ·rw [not_f h3, not_f h4, Bool.true_and] at e
    and_intros <;> first | trivial | exact Nat.zero_le _ | exact fino_some rfl e
 ·rintro r h1 ⟨⟨a, rfl, h2⟩, rfl⟩
  exact ⟨_, _, ⟨rfl, rfl⟩, Tell.tup ⟨msgO_tell _ _ h2, Tell.refl _, trivial⟩, TellH.refl _⟩
def e20o : SpE := ⟨true, ev1 byD (fun b => some (b.l.length ≤ 1099511627776)) fun b => .tup [.agg (orZ (decW b)).Co, .bool (decW b).isSome]⟩
theorem ok20o : SpE.ok Try.prog 20 e20o := ev1_ok kBy (fun _ => rfl) (fun b h => fn20o b h)
open Go.Proofs
set_option maxRecDepth 100000

def Rec.Co (r : Rec) : List AV := [.int r.proto, .str r.name, r.salt.O, .u32 r.v.a0, .u32 r.v.a1, .u32 r.v.a2, .u32 r.v.a3, .u32 r.v.a4, .u32 r.v.a5, .u32 r.v.a6, .u32 r.v.a7,
 .u32 r.key.a0, .u32 r.key.a1, .u32 r.key.a2, .u32 r.key.a3, .u32 r.key.a4, .u32 r.key.a5, .u32 r.key.a6, .u32 r.key.a7, r.sea.O, .int r.toks, .int r.at_, .int r.rev]
def recO : AV → Option Rec
 | .agg [.int p, .str s, x1, .u32 a0, .u32 a1, .u32 a2, .u32 a3, .u32 a4, .u32 a5, .u32 a6, .u32 a7, .u32 b0, .u32 b1, .u32 b2, .u32 b3, .u32 b4, .u32 b5, .u32 b6, .u32 b7, x2, .int t, .int c, .int e] =>
   match byO x1 with
   | some y1 => match byO x2 with
     | some y2 => some ⟨p, s, y1, ⟨a0, a1, a2, a3, a4, a5, a6, a7⟩, ⟨b0, b1, b2, b3, b4, b5, b6, b7⟩, y2, t, c, e⟩
     | none => none
   | none => none
 | _ => none
theorem recO_tellL (a : AV) (m : Rec) (h : recO a = some m) : ∃ l, a = .agg l ∧ TellL l m.Co := by
 unfold recO at h
 split at h
 ·split at h
  ·rename_i h1
   split at h
   ·rename_i h2
    cases h
    refine ⟨_, rfl, ?_⟩
    simp only [Rec.Co, TellL]
    exact ⟨Tell.refl _, Tell.refl _, byO_tell _ _ h1, Tell.refl _, Tell.refl _, Tell.refl _, Tell.refl _, Tell.refl _, Tell.refl _, Tell.refl _, Tell.refl _, Tell.refl _, Tell.refl _, Tell.refl _, Tell.refl _, Tell.refl _,
     Tell.refl _, Tell.refl _, Tell.refl _, byO_tell _ _ h2, Tell.refl _, Tell.refl _, Tell.refl _, trivial⟩
   ·cases h
  ·cases h
 ·cases h
theorem recO_tell (a : AV) (m : Rec) (h : recO a = some m) : Tell a (.agg m.Co) := by
 obtain ⟨l, rfl, hl⟩ := recO_tellL a m h; exact Tell.agg hl
theorem recO_tellC (a : AV) (m : Rec) (h : recO a = some m) : TellC a (.agg m.Co) := by
 obtain ⟨l, rfl, hl⟩ := recO_tellL a m h; exact TellC.agg hl
def isRecO (a : AV) (m : Rec) : Prop := recO a = some m
theorem finro_none {x : AV} {d : Option Rec} (hx : isRecO x Rec.zero) (e : d = none) : ∃ a, AV.tup [x, .bool false] = .tup [a, .bool d.isSome] ∧ isRecO a (orZR d) := ⟨x, by rw [e]; rfl, by rw [e]; exact hx⟩
theorem finro_some {x : AV} {d : Option Rec} {m : Rec} (hx : isRecO x m) (e : d = some m) : ∃ a, AV.tup [x, .bool true] = .tup [a, .bool d.isSome] ∧ isRecO a (orZR d) := ⟨x, by rw [e]; rfl, by rw [e]; exact hx⟩
set_option maxHeartbeats 4000000 in
theorem fn37o (b : By) (hb : b.l.length ≤ 1099511627776) : ACalls Try.prog 37 [b.A] [] (fun a h => a = .tup [.agg (orZR (readW b)).Co, .bool (readW b).isSome] ∧ h = []) := by
 refine ACalls.tell (K := fun a h => (∃ x, a = .tup [x, .bool (readW b).isSome] ∧ isRecO x (orZR (readW b))) ∧ h = []) ?_ ?_
 ·refine o37.run (Γ := G0 keep37 [(52, e52), (54, e54o), (67, e67), (35, e35), (55, e55)]) (own := false) (kn := 0) (.cons ok52 o52.enter (.cons ok54o o54.enter (.cons ok67 o67.enter (.cons ok35 o35.enter (.cons ok55 o55.enter .nil))))) (Nat.le_of_ble_eq_true rfl) rfl (Nat.le_refl _) ?_
  dsimp only [c37, keep37, res37, Rec.C, Rec.Co, By.O, byO, recO, recD, Rd.A, rdD, e52, e54o, e67, e35, e55, Num.eta, By.eta, Rd.eta, Rec.eta, go_sem, Nat.succ, Int.reduceToNat, Nat.reduceAdd, Nat.reduceMul, Nat.reduceSub, Int.reduceLT, Int.reduceLE, Int.reduceNeg, UInt64.reduceToNat, UInt32.reduceToNat, UInt8.reduceToNat]
  have l0 : (rr0 b).b.l.length ≤ 1099511627776 := hb
  have l1 : (rr1 b).b.l.length ≤ 1099511627776 := Nat.le_trans ((rr0 b).next_le 1) l0
  have l2 : (rr2 b).b.l.length ≤ 1099511627776 := Nat.le_trans (rr1 b).nextL_le l1
  have l3 : (rr3 b).b.l.length ≤ 1099511627776 := Nat.le_trans (rr2 b).nextL_le l2
  have l4 : (rr4 b).b.l.length ≤ 1099511627776 := Nat.le_trans (rr3 b).nextL_le l3
  have l5 : (rr5 b).b.l.length ≤ 1099511627776 := Nat.le_trans ((rr4 b).next_le 4) l4
  have l6 : (rr6 b).b.l.length ≤ 1099511627776 := Nat.le_trans ((rr5 b).next_le 4) l5
  have l7 : (rr7 b).b.l.length ≤ 1099511627776 := Nat.le_trans ((rr6 b).next_le 1) l6
  have l8 : (rr8 b).b.l.length ≤ 1099511627776 := Nat.le_trans ((rr7 b).next_le 8) l7
  refine ⟨l0, rfl, l1, l2, l3, l4, rfl, l5, rfl, l6, l7, l8, fork_intro (fun h => ?_) (fun h => fork_intro (fun h2 => ?_) (fun h2 => fork_intro (fun h3 => ?_) (fun h3 => ?_)))⟩
  ·have h : (!(recW b).ok) = true := h
   have e : readW b = none := by rw [readW, not_t h]; rfl
   exact ⟨rfl, rfl, rfl, by omega, finro_none rfl e, rfl⟩
  ·have h : (!(recW b).ok) = false := h
   have h2 : (rr9 b).bad = true := h2
   have e : readW b = none := by rw [readW, h2]; simp
   exact ⟨rfl, rfl, rfl, by omega, finro_none rfl e, rfl⟩
  ·have h3 : (!((recW b).outW.l == b.l)) = true := h3
   have e : readW b = none := by rw [readW, not_t h3]; simp
   exact ⟨rfl, rfl, rfl, by omega, finro_none rfl e, rfl⟩
  ·have h : (!(recW b).ok) = false := h
   have h2 : (rr9 b).bad = false := h2
   have h3 : (!((recW b).outW.l == b.l)) = false := h3
   have e : readW b = some (recW b) := by rw [readW, not_f h, h2, not_f h3]; rfl
   exact ⟨rfl, rfl, rfl, by omega, finro_some rfl e, rfl⟩
 ·rintro a h ⟨⟨x, rfl, h1⟩, rfl⟩
  exact ⟨_, _, ⟨rfl, rfl⟩, Tell.tup ⟨recO_tell _ _ h1, Tell.refl _, trivial⟩, TellH.refl _⟩

theorem by_plain (b : By) : Plain [b.A] := fun E E' hp _ _ vs r => by
 simp only [relL, By.A, rel, relC, Env.at_] at r ⊢
 rw [hp]; exact r
def Msg.Cw (m : Msg) : List AV := wkL m.Co
theorem fn20w (b : By) (hb : b.l.length ≤ 1099511627776) : ACalls Try.prog 20 [b.A] [] (fun r h => r = .tup [.agg (orZ (decW b)).Cw, .bool (decW b).isSome] ∧ h = []) :=
 (ACalls.wild (K := fun r => r = .tup [.agg (orZ (decW b)).Co, .bool (decW b).isSome]) (by_plain b) (fn20o b hb)).mono fun r h ⟨⟨r0, h1, h2⟩, h3⟩ => ⟨by rw [h2, h1]; rfl, h3⟩
def e20w : SpE := ⟨true, ev1 byD (fun b => some (b.l.length ≤ 1099511627776)) fun b => .tup [.agg (orZ (decW b)).Cw, .bool (decW b).isSome]⟩
theorem ok20w : SpE.ok Try.prog 20 e20w := ev1_ok kBy (fun _ => rfl) (fun b h => fn20w b h)
def Rec.Cw (r : Rec) : List AV := wkL r.Co
theorem fn37w (b : By) (hb : b.l.length ≤ 1099511627776) : ACalls Try.prog 37 [b.A] [] (fun r h => r = .tup [.agg (orZR (readW b)).Cw, .bool (readW b).isSome] ∧ h = []) :=
 (ACalls.wild (K := fun r => r = .tup [.agg (orZR (readW b)).Co, .bool (readW b).isSome]) (by_plain b) (fn37o b hb)).mono fun r h ⟨⟨r0, h1, h2⟩, h3⟩ => ⟨by rw [h2, h1]; rfl, h3⟩
def e37w : SpE := ⟨true, ev1 byD (fun b => some (b.l.length ≤ 1099511627776)) fun b => .tup [.agg (orZR (readW b)).Cw, .bool (readW b).isSome]⟩
theorem ok37w : SpE.ok Try.prog 37 e37w := ev1_ok kBy (fun _ => rfl) (fun b h => fn37w b h)
def spAt (k : Nat) (a b : SpE) : SpE := ⟨true, fun args h => match Nat.beq (hlen h) k with | true => a.f args h | false => b.f args h⟩
theorem spAt_ok {P : Program} {g k : Nat} {a b : SpE} (ha : SpE.ok P g a) (hb : SpE.ok P g b) : SpE.ok P g (spAt k a b) := fun args h => by
 cases hk : Nat.beq (hlen h) k with
 | true => simp only [spAt, hk]; exact ha args h
 | false => simp only [spAt, hk]; exact hb args h
end Go.Abs
