/-
  Own work. Conditions: none. Regions whose order is drawn. A range over a function of which the elements are known one by one: what is asked of the loop's body. (Own work; after the kit's law for such a loop.) The executor over c
-/
import Derived.Test.YtmgefdndbcgoiaaAbsB
import Derived.RangeFuncNested
import Derived.ControlIn
import Derived.RangeFuncLeaves
import Derived.Laws.Sem
import Derived.WalkKit
import Derived.Below
import Derived.Attr
set_option linter.unusedVariables false
set_option linter.unusedSimpArgs false
set_option linter.unnecessarySimpa false
namespace Go.Abs

theorem mask_bits {acc : Array Nat} {j : Nat} : ∀ (es : List Edge) (s : Nat), (es.foldl (fun s e => if Region.binds .any e then s ||| 2 ^ e.on ||| acc.getD e.on 0 else s) s).testBit j = true →
  s.testBit j = true ∨ ∃ e ∈ es, Region.binds .any e = true ∧ (j = e.on ∨ (acc.getD e.on 0).testBit j = true)
 | [], s, h => .inl h
 | e :: es, s, h => by
   simp only [List.foldl_cons] at h
   rcases mask_bits es _ h with h | ⟨e', h1, h2⟩
   ·split at h
    ·rename_i hb
     simp only [Nat.testBit_or, Bool.or_eq_true] at h
     rcases h with (h | h) | h
     ·exact .inl h
     ·rw [Nat.testBit_two_pow] at h
      exact .inr ⟨e, by simp, hb, .inl (by have := of_decide_eq_true h; omega)⟩
     ·exact .inr ⟨e, by simp, hb, .inr h⟩
    ·exact .inl h
   ·exact .inr ⟨e', List.mem_cons_of_mem _ h1, h2⟩

theorem befores_size (ops : Array Oper) : ∀ n, (befores ops n).size = n
 | 0 => rfl
 | n + 1 => by simp [befores, befores_size ops n]
theorem befores_get (ops : Array Oper) {i : Nat} : ∀ {n : Nat}, i < n → (befores ops n).getD i 0 = (match ops[i]? with | some o => maskOf (befores ops i) o | none => 0)
 | 0, h => by omega
 | n + 1, h => by
   have hs := befores_size ops n
   simp only [befores]
   by_cases e : i = n
   ·subst e
    simp only [Array.getD_eq_getD_getElem?]
    rw [Array.getElem?_push, if_pos hs.symm]
    rfl
   ·rw [← befores_get ops (show i < n by omega)]
    simp only [Array.getD_eq_getD_getElem?]
    rw [Array.getElem?_push, if_neg (by omega)]

def Closed (ops : Array Oper) (listed : Array Bool) : Prop := ∀ i o, ops[i]? = some o → listed.getD i true = true → ∀ e ∈ o.after, Region.binds .any e = true → listed.getD e.on false = true

theorem ordered_listed {ops : Array Oper} {listed : Array Bool} (hc : Closed ops listed) (hl : listed.size = ops.size) : ∀ (i : Nat) (o : Oper), ops[i]? = some o → (∀ e ∈ o.after, Region.binds .any e = true → listed.getD e.on false = true) →
  ∀ {n : Nat}, i < n → ∀ j, ((befores ops n).getD i 0).testBit j = true → listed.getD j false = true := by
 intro i
 induction i using Nat.strongRecOn with
 | _ i ih =>
   intro o ho hp n hn j hj
   rw [befores_get ops hn, ho] at hj
   simp only [maskOf] at hj
   rcases mask_bits _ _ hj with h | ⟨e, h1, h2, h3⟩
   ·simp at h
   ·have he : e ∈ o.after := by simpa using h1
    rcases h3 with rfl | h3
    ·exact hp e he h2
    ·have hlt : e.on < i := by
      rcases Nat.lt_or_ge e.on i with h | h
      ·exact h
      ·have : (befores ops i).getD e.on 0 = 0 := by
        simp only [Array.getD_eq_getD_getElem?]
        rw [Array.getElem?_eq_none_iff.2 (by rw [befores_size]; exact h)]; rfl
       rw [this] at h3; simp at h3
     have hlo : i < ops.size := (Array.getElem?_eq_some_iff.1 ho).1
     have hle := hp e he h2
     have hget : ops[e.on]? = some ops[e.on] := by simp
     refine ih e.on hlt ops[e.on] hget (fun e' he' hb' => hc e.on _ hget ?_ e' he' hb') hlt j h3
     have hs : e.on < listed.size := by omega
     simpa [Array.getD, hs] using hle

def rem (ops : Array Oper) (listed : Array Bool) : List Nat := (List.range ops.size).filter fun i => !listed.getD i true

theorem range_split {n i : Nat} (h : i < n) : ∃ t, List.range n = List.range i ++ i :: t ∧ ∀ k ∈ t, i < k := by
 refine ⟨(List.range n).drop (i + 1), ?_, fun k hk => ?_⟩
 ·have : List.range n = (List.range n).take i ++ (List.range n).drop i := (List.take_append_drop i _).symm
  rw [List.drop_eq_getElem_cons (by simpa using h)] at this
  rw [List.take_range, Nat.min_eq_left (by omega)] at this
  simpa using this
 ·obtain ⟨m, hm, rfl⟩ := List.getElem_of_mem hk
  simp; omega

theorem rem_split {ops : Array Oper} {listed : Array Bool} (hl : listed.size = ops.size) {i : Nat} (hi : i < ops.size) (hn : listed.getD i true = false) :
  ∃ l1 l2, rem ops listed = l1 ++ i :: l2 ∧ rem ops (listed.setIfInBounds i true) = l1 ++ l2 ∧ (∀ j ∈ l1, j < i ∧ listed.getD j true = false) ∧ (∀ k ∈ l2, i < k) ∧ l1.Pairwise (· < ·) := by
 obtain ⟨t, ht, htk⟩ := range_split hi
 have hne : ∀ k, k ≠ i → (listed.setIfInBounds i true).getD k true = listed.getD k true := fun k hk => by
  simp only [Array.getD_eq_getD_getElem?, Array.getElem?_setIfInBounds_ne (Ne.symm hk)]
 have hself : (listed.setIfInBounds i true).getD i true = true := by
  have : i < listed.size := by omega
  simp [Array.getD, this]
 refine ⟨(List.range i).filter fun i => !listed.getD i true, t.filter fun i => !listed.getD i true, ?_, ?_, fun j hj => ?_, fun k hk => htk k (List.mem_filter.1 hk).1, List.Pairwise.filter _ List.pairwise_lt_range⟩
 ·unfold rem
  rw [ht, List.filter_append, List.filter_cons, hn]; rfl
 ·unfold rem
  rw [ht, List.filter_append, List.filter_cons, hself]
  simp only [Bool.not_true, Bool.false_eq_true, if_false]
  congr 1
  ·exact List.filter_congr fun k hk => by rw [hne k (by have := List.mem_range.1 hk; omega)]
  ·exact List.filter_congr fun k hk => by rw [hne k (by have := htk k hk; omega)]
 ·obtain ⟨h1, h2⟩ := List.mem_filter.1 hj
  exact ⟨List.mem_range.1 h1, by simpa using h2⟩

section
variable {P : Program} {ti : Nat → TInf} {B : Base} {sp : Sp} {N : Nat} {D : List Deferred} {mu pures : List Nat} {ops : Array Oper} {n : Nat} {Q : Exit → Act → World → Prop} {ro : Option Nat}

theorem any_ok (hti : TIok P ti) (hsp : SpOK P sp) {cs : List CO} {draw : Bool} (hc : compOps ti mu pures draw N ops ops.toList = some cs) (hown : ∀ co ∈ cs, Own B N (COlooks co)) {cf : List (Nat × Nat)} (hok : orderOK ops cs cf = true) {gF : Nat → AV} {hF : List AO} (hdis : ∀ x ∈ cf, Dis (gF x.1) (gF x.2)) (hQ : ∀ E' a' w', St B N D E' gF hF a' w' → Q .normal a' w') :
  ∀ (fuel : Nat) (listed : Array Bool) (E : Env) (g : Nat → AV) (h : List AO) (a : Act) (w : World), listed.size = ops.size → Closed ops listed → (rem ops listed).length ≤ fuel → St B N D E g h a w → afold sp cs (rem ops listed) (g, h) = some (gF, hF) →
   wpAnyIn (Fw ro) n P .any ops Q fuel listed a w := by
 obtain ⟨k1, k2⟩ := compOps_get hc
 have hcl : ∀ co ∈ cs, co.c ≠ 2 → co.c = kls pures co.o := fun co hco => by
  obtain ⟨i, hi, he⟩ := List.getElem_of_mem hco
  have hio : i < ops.toList.length := by omega
  exact (k2 i ops.toList[i] co (by simp [hio]) (by rw [List.getElem?_eq_getElem hi, he])).2.2.2.2
 unfold orderOK at hok
 simp only [Bool.and_eq_true] at hok
 obtain ⟨hback, hord⟩ := hok
 have hfin : ∀ {listed : Array Bool} {E : Env} {g : Nat → AV} {h : List AO} {a : Act} {w : World}, rem ops listed = [] → St B N D E g h a w → afold sp cs (rem ops listed) (g, h) = some (gF, hF) → Q .normal a w := fun {listed E g h a w} hr s hf => by
  rw [hr] at hf
  simp only [afold, Option.some.injEq, Prod.mk.injEq] at hf
  obtain ⟨rfl, rfl⟩ := hf
  exact hQ _ _ _ s
 have hready : ∀ {listed : Array Bool} {i : Nat}, i ∈ Region.ready .any ops listed ↔ i < ops.size ∧ listed.getD i true = false ∧ ∃ o, ops[i]? = some o ∧ ∀ e ∈ o.after, Region.binds .any e = true → listed.getD e.on false = true := fun {listed i} => by
  unfold Region.ready
  rw [List.mem_filter, List.mem_range, Bool.and_eq_true]
  refine and_congr_right fun hlt => and_congr (by simp) ?_
  have : ops[i]? = some ops[i] := by simp
  rw [this]
  simp only [Option.map_some, Option.getD_some, Array.all_eq_true_iff_forall_mem, Bool.or_eq_true, Bool.not_eq_true', Option.some.injEq, exists_eq_left']
  constructor
  ·intro hh e he hb
   rcases hh e he with h | h
   ·rw [hb] at h; cases h
   ·exact h
  ·intro hh e he
   cases hb : Region.binds .any e
   ·exact .inl rfl
   ·exact .inr (hh e he hb)
 have hback' : ∀ {i : Nat} {o : Oper}, ops[i]? = some o → ∀ e ∈ o.after, Region.binds .any e = true → e.on < i := fun {i o} ho e he hb => by
  unfold backOK at hback
  have := List.all_eq_true.1 hback i (List.mem_range.2 (Array.getElem?_eq_some_iff.1 ho).1)
  rw [ho] at this
  have := (Array.all_eq_true_iff_forall_mem.1 this) e he
  rw [hb] at this
  simpa using this
 intro fuel
 induction fuel with
 | zero =>
   intro listed E g h a w hl hcd hlen s hf
   have hr : rem ops listed = [] := List.eq_nil_of_length_eq_zero (by omega)
   refine ⟨?_, hfin hr s hf⟩
   refine List.eq_nil_iff_forall_not_mem.2 fun i hi => ?_
   obtain ⟨h1, h2, _⟩ := hready.1 hi
   have : i ∈ rem ops listed := List.mem_filter.2 ⟨List.mem_range.2 h1, by rw [h2]; rfl⟩
   rw [hr] at this; cases this
 | succ fuel ih =>
   intro listed E g h a w hl hcd hlen s hf
   constructor
   ·intro hrd
    refine hfin (List.eq_nil_iff_forall_not_mem.2 fun i hi => ?_) s hf
    have none : ∀ i, i ∉ rem ops listed := by
     intro i
     induction i using Nat.strongRecOn with
     | _ i ih2 =>
       intro hi
       obtain ⟨h1, h2⟩ := List.mem_filter.1 hi
       have hlt := List.mem_range.1 h1
       have : i ∈ Region.ready .any ops listed := hready.2 ⟨hlt, by simpa using h2, ops[i], by simp, fun e he hb => by
        have hlt' : e.on < i := hback' (by simp) e he hb
        have hn := ih2 e.on hlt'
        cases hg : listed.getD e.on true
        ·exact absurd (List.mem_filter.2 ⟨List.mem_range.2 (by omega), by rw [hg]; rfl⟩) hn
        ·have hs : e.on < listed.size := by omega
         simpa [Array.getD, hs] using hg⟩
       rw [hrd] at this; cases this
    exact none i hi
   ·intro i hi
    obtain ⟨hlt, hn, o, ho, hp⟩ := hready.1 hi
    obtain ⟨l1, l2, e1, e2, e3, e4, e5⟩ := rem_split hl hlt hn
    obtain ⟨co, hco⟩ : ∃ co, cs[i]? = some co := ⟨cs[i]'(by rw [k1, Array.length_toList]; exact hlt), by simp⟩
    obtain ⟨q1, q2, q3, q4, _⟩ := k2 i o co (by simpa using ho) hco
    rw [e1] at hf
    have hap : ∀ j ∈ l1, ∀ c', cs[j]? = some c' → apart c' co = true ∨ ∃ x ∈ cf, confOf cs j i c' co = some x := fun j hj c' hc' => by
     obtain ⟨hji, hjn⟩ := e3 j hj
     have h1 := List.all_eq_true.1 (List.all_eq_true.1 hord i (List.mem_range.2 hlt)) j (List.mem_range.2 hji)
     rw [hc', hco] at h1
     simp only [Bool.or_eq_true] at h1
     rcases h1 with (h1 | h1) | h1
     ·exfalso
      have := ordered_listed hcd hl i o ho hp hlt j (by simpa [ordered] using h1)
      have hs : j < listed.size := by omega
      simp [Array.getD, hs] at this hjn
      rw [this] at hjn; cases hjn
     ·exact .inl h1
     ·split at h1
      ·rename_i x hx; exact .inr ⟨x, by simpa using h1, hx⟩
      ·cases h1
    have hf' := afold_first hco hcl (cf := cf) hdis l1 (fun j hj => (e3 j hj).1) e4 e5 hap hf
    simp only [afold, hco] at hf'
    cases hs : astep sp co (g, h) with
    | none => rw [hs] at hf'; cases hf'
    | some st =>
      obtain ⟨g1, h1⟩ := st
      rw [hs] at hf'
      simp only [Option.bind_some] at hf'
      refine step_ok hti hsp s ho q1 q2 q3 q4 (hown co (List.mem_of_getElem? hco)) hs fun E' a' w' s' => ih _ E' g1 h1 a' w' (by simp [hl]) ?_ ?_ s' (by rw [e2]; exact hf')
      ·intro k ok hk hkl e he hb
       have mono : ∀ x, listed.getD x false = true → (listed.setIfInBounds i true).getD x false = true := fun x hx => by
        by_cases e : x = i
        ·subst e
         have : x < listed.size := by omega
         simp [Array.getD, this]
        ·simp only [Array.getD_eq_getD_getElem?, Array.getElem?_setIfInBounds_ne (Ne.symm e)] at hx ⊢; exact hx
       by_cases e' : k = i
       ·subst e'
        rw [ho] at hk; cases hk
        exact mono _ (hp e he hb)
       ·refine mono _ (hcd k ok hk ?_ e he hb)
        simp only [Array.getD_eq_getD_getElem?, Array.getElem?_setIfInBounds_ne (Ne.symm e')] at hkl ⊢; exact hkl
      ·rw [e2]; rw [e1] at hlen; simp at hlen ⊢; omega

theorem region_ok (hti : TIok P ti) (hsp : SpOK P sp) {id : Nat} {draw : Bool} (hm : P.follows .mixedOrders = true) {cs : List CO} (hc : compOps ti mu pures draw N ops ops.toList = some cs) (hown : ∀ co ∈ cs, Own B N (COlooks co)) {cf : List (Nat × Nat)} (hok : draw = true → orderOK ops cs cf = true) {E : Env} {g : Nat → AV} {h : List AO} {a : Act} {w : World}
  (s : St B N D E g h a w) {gF : Nat → AV} {hF : List AO} (hf : afold sp cs (List.range ops.size) (g, h) = some (gF, hF)) (hdis : ∀ x ∈ cf, Dis (gF x.1) (gF x.2)) (hQ : ∀ E' a' w', St B N D E' gF hF a' w' → Q .normal a' w') : (Code.region id ops draw).wpIn (Fw ro) n P Q a w := by
 cases draw with
 | false => exact wpIn_region (ops_ok hti hsp hc hown _ s hf hQ)
 | true =>
   refine wpIn_region_any hm ?_
   have hrem : rem ops (Array.replicate ops.size false) = List.range ops.size := by
    unfold rem
    refine List.filter_eq_self.2 fun i hi => ?_
    have := List.mem_range.1 hi
    simp [Array.getD, this]
   refine any_ok hti hsp hc hown (hok rfl) hdis hQ _ _ E g h a _ (by simp) (fun i o ho hl => ?_) (by rw [hrem]; simp) ⟨s.mem.drew, s.slots, s.size, s.defers⟩ (by rw [hrem]; exact hf)
   have hlt : i < ops.size := (Array.getElem?_eq_some_iff.1 ho).1
   simp [Array.getD, hlt] at hl

theorem any_ind (hti : TIok P ti) (hsp : SpOK P sp) {cs : List CO} {draw : Bool} (hc : compOps ti mu pures draw N ops ops.toList = some cs) (hown : ∀ co ∈ cs, Own B N (COlooks co)) (hback : backOK ops = true) {J : Array Bool → (Nat → AV) → List AO → Prop}
  (hstep : ∀ (listed : Array Bool) (g : Nat → AV) (h : List AO) (i : Nat) (o : Oper) (co : CO), listed.size = ops.size → Closed ops listed → i < ops.size → listed.getD i true = false → ops[i]? = some o → cs[i]? = some co → (∀ e ∈ o.after, Region.binds .any e = true → listed.getD e.on false = true) → J listed g h →
    ∃ g1 h1, astep sp co (g, h) = some (g1, h1) ∧ J (listed.setIfInBounds i true) g1 h1)
  (hend : ∀ (listed : Array Bool) (g : Nat → AV) (h : List AO), listed.size = ops.size → (∀ i, i < ops.size → listed.getD i true = true) → J listed g h → ∀ E a w, St B N D E g h a w → Q .normal a w) :
  ∀ (fuel : Nat) (listed : Array Bool) (E : Env) (g : Nat → AV) (h : List AO) (a : Act) (w : World), listed.size = ops.size → Closed ops listed → (rem ops listed).length ≤ fuel → St B N D E g h a w → J listed g h → wpAnyIn (Fw ro) n P .any ops Q fuel listed a w := by
 obtain ⟨k1, k2⟩ := compOps_get hc
 have hready : ∀ {listed : Array Bool} {i : Nat}, i ∈ Region.ready .any ops listed ↔ i < ops.size ∧ listed.getD i true = false ∧ ∃ o, ops[i]? = some o ∧ ∀ e ∈ o.after, Region.binds .any e = true → listed.getD e.on false = true := fun {listed i} => by
  unfold Region.ready
  rw [List.mem_filter, List.mem_range, Bool.and_eq_true]
  refine and_congr_right fun hlt => and_congr (by simp) ?_
  have : ops[i]? = some ops[i] := by simp
  rw [this]
  simp only [Option.map_some, Option.getD_some, Array.all_eq_true_iff_forall_mem, Bool.or_eq_true, Bool.not_eq_true', Option.some.injEq, exists_eq_left']
  constructor
  ·intro hh e he hb
   rcases hh e he with h | h
   ·rw [hb] at h; cases h
   ·exact h
  ·intro hh e he
   cases hb : Region.binds .any e
   ·exact .inl rfl
   ·exact .inr (hh e he hb)
 have hback' : ∀ {i : Nat} {o : Oper}, ops[i]? = some o → ∀ e ∈ o.after, Region.binds .any e = true → e.on < i := fun {i o} ho e he hb => by
  unfold backOK at hback
  have := List.all_eq_true.1 hback i (List.mem_range.2 (Array.getElem?_eq_some_iff.1 ho).1)
  rw [ho] at this
  have := (Array.all_eq_true_iff_forall_mem.1 this) e he
  rw [hb] at this
  simpa using this
 have hall : ∀ {listed : Array Bool}, rem ops listed = [] → ∀ i, i < ops.size → listed.getD i true = true := fun {listed} hr i hi => by
  cases hg : listed.getD i true
  ·have : i ∈ rem ops listed := List.mem_filter.2 ⟨List.mem_range.2 hi, by rw [hg]; rfl⟩
   rw [hr] at this; cases this
  ·rfl
 intro fuel
 induction fuel with
 | zero =>
   intro listed E g h a w hl hcd hlen s hJ
   have hr : rem ops listed = [] := List.eq_nil_of_length_eq_zero (by omega)
   refine ⟨?_, hend listed g h hl (hall hr) hJ E a w s⟩
   refine List.eq_nil_iff_forall_not_mem.2 fun i hi => ?_
   obtain ⟨h1, h2, _⟩ := hready.1 hi
   rw [hall hr i h1] at h2; cases h2
 | succ fuel ih =>
   intro listed E g h a w hl hcd hlen s hJ
   constructor
   ·intro hrd
    refine hend listed g h hl (hall (List.eq_nil_iff_forall_not_mem.2 fun i => ?_)) hJ E a w s
    induction i using Nat.strongRecOn with
    | _ i ih2 =>
      intro hi
      obtain ⟨h1, h2⟩ := List.mem_filter.1 hi
      have hlt := List.mem_range.1 h1
      have : i ∈ Region.ready .any ops listed := hready.2 ⟨hlt, by simpa using h2, ops[i], by simp, fun e he hb => by
       have hlt' : e.on < i := hback' (by simp) e he hb
       have hn := ih2 e.on hlt'
       cases hg : listed.getD e.on true
       ·exact absurd (List.mem_filter.2 ⟨List.mem_range.2 (by omega), by rw [hg]; rfl⟩) hn
       ·have hs : e.on < listed.size := by omega
        simpa [Array.getD, hs] using hg⟩
      rw [hrd] at this; cases this
   ·intro i hi
    obtain ⟨hlt, hn, o, ho, hp⟩ := hready.1 hi
    obtain ⟨l1, l2, e1, e2, e3, e4, e5⟩ := rem_split hl hlt hn
    obtain ⟨co, hco⟩ : ∃ co, cs[i]? = some co := ⟨cs[i]'(by rw [k1, Array.length_toList]; exact hlt), by simp⟩
    obtain ⟨q1, q2, q3, q4, _⟩ := k2 i o co (by simpa using ho) hco
    obtain ⟨g1, h1, hs, hJ1⟩ := hstep listed g h i o co hl hcd hlt hn ho hco hp hJ
    refine step_ok hti hsp s ho q1 q2 q3 q4 (hown co (List.mem_of_getElem? hco)) hs fun E' a' w' s' => ih _ E' g1 h1 a' w' (by simp [hl]) ?_ ?_ s' hJ1
    ·intro k ok hk hkl e he hb
     have mono : ∀ x, listed.getD x false = true → (listed.setIfInBounds i true).getD x false = true := fun x hx => by
      by_cases e : x = i
      ·subst e
       have : x < listed.size := by omega
       simp [Array.getD, this]
      ·simp only [Array.getD_eq_getD_getElem?, Array.getElem?_setIfInBounds_ne (Ne.symm e)] at hx ⊢; exact hx
     by_cases e' : k = i
     ·subst e'
      rw [ho] at hk; cases hk
      exact mono _ (hp e he hb)
     ·refine mono _ (hcd k ok hk ?_ e he hb)
      simp only [Array.getD_eq_getD_getElem?, Array.getElem?_setIfInBounds_ne (Ne.symm e')] at hkl ⊢; exact hkl
    ·rw [e2]; rw [e1] at hlen; simp at hlen ⊢; omega

def remX (σ : Nat → Nat) (ops : Array Oper) (listed : Array Bool) : List Nat := (List.range ops.size).filter fun p => !listed.getD (σ p) true
structure Perm (σ π : Nat → Nat) (n : Nat) : Prop where
 s : ∀ p, p < n → σ p < n ∧ π (σ p) = p
 p : ∀ x, x < n → π x < n ∧ σ (π x) = x
theorem remX_split {σ π : Nat → Nat} {listed : Array Bool} (hq : Perm σ π ops.size) (hl : listed.size = ops.size) {x : Nat} (hx : x < ops.size) (hn : listed.getD x true = false) :
  ∃ l1 l2, remX σ ops listed = l1 ++ π x :: l2 ∧ remX σ ops (listed.setIfInBounds x true) = l1 ++ l2 ∧ (∀ j ∈ l1, j < π x ∧ listed.getD (σ j) true = false) ∧ (∀ k ∈ l2, π x < k) ∧ l1.Pairwise (· < ·) := by
 obtain ⟨hpx, hsx⟩ := hq.p x hx
 obtain ⟨t, ht, htk⟩ := range_split hpx
 have htn : ∀ k ∈ t, k < ops.size := fun k hk => List.mem_range.1 (by rw [ht]; simp [hk])
 have hne : ∀ k, k < ops.size → k ≠ π x → (listed.setIfInBounds x true).getD (σ k) true = listed.getD (σ k) true := fun k hk hkx => by
  have : σ k ≠ x := fun e => hkx (by rw [← e, (hq.s k hk).2])
  simp only [Array.getD_eq_getD_getElem?, Array.getElem?_setIfInBounds_ne (Ne.symm this)]
 have hself : (listed.setIfInBounds x true).getD (σ (π x)) true = true := by
  rw [hsx]
  have : x < listed.size := by omega
  simp [Array.getD, this]
 refine ⟨(List.range (π x)).filter fun p => !listed.getD (σ p) true, t.filter fun p => !listed.getD (σ p) true, ?_, ?_, fun j hj => ?_, fun k hk => htk k (List.mem_filter.1 hk).1, List.Pairwise.filter _ List.pairwise_lt_range⟩
 ·unfold remX
  rw [ht, List.filter_append, List.filter_cons, hsx, hn]; rfl
 ·unfold remX
  rw [ht, List.filter_append, List.filter_cons, hself]
  simp only [Bool.not_true, Bool.false_eq_true, if_false]
  congr 1
  ·exact List.filter_congr fun k hk => by have := List.mem_range.1 hk; rw [hne k (by omega) (by omega)]
  ·exact List.filter_congr fun k hk => by rw [hne k (htn k hk) (by have := htk k hk; omega)]
 ·obtain ⟨h1, h2⟩ := List.mem_filter.1 hj
  exact ⟨List.mem_range.1 h1, by simpa using h2⟩

theorem first_X {cs cs2 : List CO} {σ π : Nat → Nat} (hq : Perm σ π ops.size) (h2 : ∀ p, p < ops.size → cs2[p]? = cs[σ p]?) (hcl : ∀ co ∈ cs2, co.c ≠ 2 → co.c = kls pures co.o) {jj : Nat} {cr : List Nat} {cf : List (Nat × Nat)} (hok : orderX jj cr σ ops cs2 cf = true) {gF : Nat → AV} {hF : List AO} (hdis : ∀ x ∈ cf, Dis (gF x.1) (gF x.2))
  {listed : Array Bool} (hl : listed.size = ops.size) (hcd : Closed ops listed) {x : Nat} {o : Oper} {co : CO} (hx : x < ops.size) (hn : listed.getD x true = false) (ho : ops[x]? = some o) (hco : cs[x]? = some co) (hp : ∀ e ∈ o.after, Region.binds .any e = true → listed.getD e.on false = true)
  (hex : ∀ p, p < π x → exB jj cr (σ p) x = true → listed.getD (σ p) true = true) {g : Nat → AV} {h : List AO} (hf : afold sp cs2 (remX σ ops listed) (g, h) = some (gF, hF)) :
  ∃ g1 h1, astep sp co (g, h) = some (g1, h1) ∧ afold sp cs2 (remX σ ops (listed.setIfInBounds x true)) (g1, h1) = some (gF, hF) := by
 obtain ⟨hpx, hsx⟩ := hq.p x hx
 have hco2 : cs2[π x]? = some co := by rw [h2 _ hpx, hsx]; exact hco
 unfold orderX at hok
 simp only [Bool.and_eq_true] at hok
 obtain ⟨_, hord⟩ := hok
 obtain ⟨l1, l2, e1, e2, e3, e4, e5⟩ := remX_split hq hl hx hn
 rw [e1] at hf
 have hap : ∀ j ∈ l1, ∀ c', cs2[j]? = some c' → apart c' co = true ∨ ∃ y ∈ cf, confOf cs2 j (π x) c' co = some y := fun j hj c' hc' => by
  obtain ⟨hji, hjn⟩ := e3 j hj
  have h1 := List.all_eq_true.1 (List.all_eq_true.1 hord (π x) (List.mem_range.2 hpx)) j (List.mem_range.2 hji)
  rw [hc', hco2] at h1
  simp only [Bool.or_eq_true] at h1
  rcases h1 with ((h1 | h1) | h1) | h1
  ·exfalso
   rw [hsx] at h1
   have := ordered_listed hcd hl x o ho hp hx (σ j) (by simpa [ordered] using h1)
   have hs : σ j < listed.size := by have := (hq.s j (by omega)).1; omega
   simp [Array.getD, hs] at this hjn
   rw [this] at hjn; cases hjn
  ·exfalso
   rw [hsx] at h1
   have := hex j hji h1
   rw [hjn] at this; cases this
  ·exact .inl h1
  ·split at h1
   ·rename_i y hy; exact .inr ⟨y, by simpa using h1, hy⟩
   ·cases h1
 have hf' := afold_first hco2 hcl (cf := cf) hdis l1 (fun j hj => (e3 j hj).1) e4 e5 hap hf
 simp only [afold, hco2] at hf'
 cases hs : astep sp co (g, h) with
 | none => rw [hs] at hf'; cases hf'
 | some st =>
   obtain ⟨g1, h1⟩ := st
   rw [hs] at hf'
   simp only [Option.bind_some] at hf'
   exact ⟨g1, h1, rfl, by rw [e2]; exact hf'⟩

theorem mv_perm {i j n : Nat} (hij : i < j) (hjn : j < n) : Perm (mvS i j) (mvP i j) n := by
 constructor
 ·intro p hp
  unfold mvS mvP
  repeat' split
  all_goals omega
 ·intro x hx
  unfold mvS mvP
  repeat' split
  all_goals omega
theorem id_perm {n : Nat} : Perm (fun p => p) (fun p => p) n := ⟨fun _ h => ⟨h, rfl⟩, fun _ h => ⟨h, rfl⟩⟩
theorem permC_len (i j : Nat) (cs : List CO) : (permC i j cs).length = cs.length := by simp [permC]
theorem permC_get {i j : Nat} {cs : List CO} (hij : i < j) (hj : j < cs.length) {p : Nat} (hp : p < cs.length) : (permC i j cs)[p]? = cs[mvS i j p]? := by
 have hs := ((mv_perm hij hj).s p hp).1
 unfold permC
 rw [List.getElem?_map, List.getElem?_range hp]
 simp only [Option.map_some]
 rw [List.getD_eq_getElem?_getD, List.getElem?_eq_getElem hs]; rfl

theorem exB_no {j : Nat} {cr : List Nat} {a b : Nat} (h : exB j cr a b = true) : (a = j ∧ b ∈ cr) ∨ (b = j ∧ a ∈ cr) := by
 unfold exB at h
 simpa [Bool.or_eq_true, Bool.and_eq_true] using h
theorem region_alt_ok (hti : TIok P ti) (hsp : SpOK P sp) {id : Nat} (hm : P.follows .mixedOrders = true) {cs : List CO} (hc : compOps ti mu pures true N ops ops.toList = some cs) (hown : ∀ co ∈ cs, Own B N (COlooks co)) {j : Nat} {cr : List Nat} (hok : altOK ops cs j cr = true) {E : Env} {g : Nat → AV} {h : List AO} {a : Act} {w : World}
  (s : St B N D E g h a w) {gF : Nat → AV} {hF : List AO} (hf : afold sp cs (List.range ops.size) (g, h) = some (gF, hF)) (hdis : ∀ x ∈ confsX j cr (fun p => p) ops cs, Dis (gF x.1) (gF x.2)) (hQ : ∀ E' a' w', St B N D E' gF hF a' w' → Q .normal a' w')
  (h2 : ∀ c ∈ cr, ∃ gG hG, afold sp (permC c j cs) (List.range ops.size) (g, h) = some (gG, hG) ∧ (∀ x ∈ confsX j cr (mvS c j) ops (permC c j cs), Dis (gG x.1) (gG x.2)) ∧ ∀ E' a' w', St B N D E' gG hG a' w' → Q .normal a' w') : (Code.region id ops true).wpIn (Fw ro) n P Q a w := by
 refine wpIn_region_any hm ?_
 unfold altOK at hok
 simp only [Bool.and_eq_true, decide_eq_true_eq, List.all_eq_true, Bool.or_eq_true, Bool.not_eq_true', decide_eq_false_iff_not] at hok
 obtain ⟨⟨hj, hcr⟩, ho1, ho2⟩ := hok
 obtain ⟨k1, k2⟩ := compOps_get hc
 have k0 : cs.length = ops.size := by rw [k1, Array.length_toList]
 have hcl : ∀ co ∈ cs, co.c ≠ 2 → co.c = kls pures co.o := fun co hco => by
  obtain ⟨i, hi, he⟩ := List.getElem_of_mem hco
  have hio : i < ops.toList.length := by rw [← k1]; exact hi
  exact (k2 i ops.toList[i] co (by simp [hio]) (by rw [List.getElem?_eq_getElem hi, he])).2.2.2.2
 have hg2 : ∀ c ∈ cr, ∀ p, p < ops.size → (permC c j cs)[p]? = cs[mvS c j p]? := fun c hc p hp => permC_get (hcr c hc).1 (by omega) (by omega)
 have hcl2 : ∀ c ∈ cr, ∀ co ∈ permC c j cs, co.c ≠ 2 → co.c = kls pures co.o := fun c hc co hco => by
  obtain ⟨p, hp, he⟩ := List.getElem_of_mem hco
  rw [permC_len] at hp
  have := hg2 c hc p (by omega)
  rw [List.getElem?_eq_getElem (by rw [permC_len]; exact hp), he] at this
  exact hcl co (List.mem_of_getElem? this.symm)
 have hbk : backOK ops = true := by
  unfold orderX at ho1
  simp only [Bool.and_eq_true] at ho1
  exact ho1.1
 have hset : ∀ (listed : Array Bool) (x y : Nat), listed.getD y true = true → (listed.setIfInBounds x true).getD y true = true := fun listed x y hy => by
  by_cases e : y = x
  ·subst e
   simp only [Array.getD_eq_getD_getElem?, Array.getElem?_setIfInBounds_self] at hy ⊢
   split <;> simp
  ·simp only [Array.getD_eq_getD_getElem?, Array.getElem?_setIfInBounds_ne (Ne.symm e)] at hy ⊢; exact hy
 have hself : ∀ (listed : Array Bool) (x : Nat), (listed.setIfInBounds x true).getD x true = true := fun listed x => by
  simp only [Array.getD_eq_getD_getElem?, Array.getElem?_setIfInBounds_self]
  split <;> simp
 have hkeep : ∀ (listed : Array Bool) (x y : Nat), y ≠ x → listed.getD y true = false → (listed.setIfInBounds x true).getD y true = false := fun listed x y e hy => by
  simp only [Array.getD_eq_getD_getElem?, Array.getElem?_setIfInBounds_ne (Ne.symm e)] at hy ⊢; exact hy
 have hback : ∀ (listed : Array Bool) (x y : Nat), (listed.setIfInBounds x true).getD y true = false → y ≠ x ∧ listed.getD y true = false := fun listed x y hy => by
  refine ⟨fun e => (by subst e; rw [hself] at hy; exact absurd hy (by simp)), ?_⟩
  cases hg : listed.getD y true
  ·rfl
  ·rw [hset _ _ _ hg] at hy; cases hy
 have hm1 : ∀ c, c < j → mvS c j c = j := fun c hc => by unfold mvS; rw [if_neg (by omega), if_pos rfl]
 have hp1 : ∀ c, c < j → mvP c j j = c := fun c hc => by unfold mvP; rw [if_neg (by omega), if_pos rfl]
 let J : Array Bool → (Nat → AV) → List AO → Prop := fun listed g h =>
  (listed.getD j true = false ∧ afold sp cs (remX (fun p => p) ops listed) (g, h) = some (gF, hF) ∧ ∀ c ∈ cr, listed.getD c true = false → ∃ gG hG, afold sp (permC c j cs) (remX (mvS c j) ops listed) (g, h) = some (gG, hG) ∧ (∀ x ∈ confsX j cr (mvS c j) ops (permC c j cs), Dis (gG x.1) (gG x.2)) ∧ ∀ E' a' w', St B N D E' gG hG a' w' → Q .normal a' w') ∨
  (listed.getD j true = true ∧ (afold sp cs (remX (fun p => p) ops listed) (g, h) = some (gF, hF) ∨ ∃ c ∈ cr, ∃ gG hG, afold sp (permC c j cs) (remX (mvS c j) ops listed) (g, h) = some (gG, hG) ∧ (∀ x ∈ confsX j cr (mvS c j) ops (permC c j cs), Dis (gG x.1) (gG x.2)) ∧ ∀ E' a' w', St B N D E' gG hG a' w' → Q .normal a' w'))
 have hrem : ∀ σ : Nat → Nat, (∀ p, p < ops.size → σ p < ops.size) → remX σ ops (Array.replicate ops.size false) = List.range ops.size := fun σ hσ => by
  unfold remX
  refine List.filter_eq_self.2 fun i hi => ?_
  have := hσ i (List.mem_range.1 hi)
  simp [Array.getD, this]
 have hrep : ∀ x, x < ops.size → (Array.replicate ops.size false).getD x true = false := fun x hx => by simp [Array.getD, hx]
 have hr0 : rem ops (Array.replicate ops.size false) = List.range ops.size := hrem (fun p => p) (fun _ h => h)
 have hpm : ∀ c ∈ cr, Perm (mvS c j) (mvP c j) ops.size := fun c hc => mv_perm (hcr c hc).1 hj
 refine any_ind (J := J) hti hsp hc hown hbk ?_ ?_ _ _ E g h a _ (by simp) (fun i o ho hl => ?_) (by rw [hr0]; simp) ⟨s.mem.drew, s.slots, s.size, s.defers⟩ (.inl ⟨hrep j hj, ?_, fun c hc _ => ?_⟩)
 ·intro listed g h x o co hl hcd hx hn ho hco hp hJ
  -- of one that is to come now, what stands ahead of it in a chain is listed
  have hch : ∀ c ∈ cr, ∀ c' ∈ cr, c < c' → c' = x → listed.getD c true = true := fun c hc c' hc' hlt e => by
   subst e
   rcases (hcr c hc).2 c' hc' with h1 | h1
   ·exact absurd hlt h1
   ·have h2 := ordered_listed hcd hl _ o ho hp hx c (by simpa [ordered] using h1)
    have hs : c < listed.size := by omega
    simpa [Array.getD, hs] using h2
  rcases hJ with ⟨hj0, hf, hfs⟩ | ⟨hj1, hf⟩
  ·by_cases ex : x = j
   ·subst ex
    by_cases hall : ∀ c ∈ cr, listed.getD c true = true
    ·obtain ⟨g1, h1, q1, q2⟩ := first_X (π := fun p => p) id_perm (fun _ _ => rfl) hcl ho1 hdis hl hcd hx hn ho hco hp (fun p hp' e => by
      rcases exB_no e with ⟨e1, _⟩ | ⟨_, e2⟩
      ·have h9 : p < x := hp'
       have h8 : p = x := e1
       omega
      ·exact hall _ e2) hf
     exact ⟨g1, h1, q1, .inr ⟨hself _ _, .inl q2⟩⟩
    ·-- the least that is not listed
     obtain ⟨c, hc, hcn, hleast⟩ : ∃ c ∈ cr, listed.getD c true = false ∧ ∀ c' ∈ cr, c' < c → listed.getD c' true = true := by
      have key : ∀ m, (∃ c ∈ cr, c < m ∧ listed.getD c true = false) → ∃ c ∈ cr, listed.getD c true = false ∧ ∀ c' ∈ cr, c' < c → listed.getD c' true = true := by
       intro m
       induction m with
       | zero => rintro ⟨c, _, h, _⟩; omega
       | succ m ih =>
         rintro ⟨c, hc, hlt, hcn⟩
         by_cases hm : ∃ c ∈ cr, c < m ∧ listed.getD c true = false
         ·exact ih hm
         ·refine ⟨c, hc, hcn, fun c' hc' hlt' => ?_⟩
          cases hg : listed.getD c' true
          ·exact absurd ⟨c', hc', by omega, hg⟩ hm
          ·rfl
      obtain ⟨c, hc⟩ := Classical.not_forall.1 hall
      obtain ⟨hc1, hc2⟩ := Classical.not_imp.1 hc
      exact key x ⟨c, hc1, (hcr c hc1).1, by simpa using hc2⟩
     obtain ⟨gG, hG, f1, f2, f3⟩ := hfs c hc hcn
     have hcx := (hcr c hc).1
     obtain ⟨g1, h1, q1, q2⟩ := first_X (hpm c hc) (hg2 c hc) (hcl2 c hc) (ho2 c hc) f2 hl hcd hx hn ho hco hp (fun p hp' e => by
      rw [hp1 c hcx] at hp'
      have hmp : mvS c x p = p := by unfold mvS; rw [if_pos hp']
      rw [hmp] at e ⊢
      rcases exB_no e with ⟨e1, _⟩ | ⟨_, e2⟩
      ·omega
      ·exact hleast _ e2 hp') f1
     exact ⟨g1, h1, q1, .inr ⟨hself _ _, .inr ⟨c, hc, gG, hG, q2, f2, f3⟩⟩⟩
   ·obtain ⟨g1, h1, q1, q2⟩ := first_X (π := fun p => p) id_perm (fun _ _ => rfl) hcl ho1 hdis hl hcd hx hn ho hco hp (fun p hp' e => by
     rcases exB_no e with ⟨e1, e2⟩ | ⟨e1, _⟩
     ·have h7 := (hcr x e2).1
      have h9 : p < x := hp'
      have h8 : p = j := e1
      omega
     ·exact absurd e1 ex) hf
    refine ⟨g1, h1, q1, .inl ⟨hkeep _ _ _ (Ne.symm ex) hj0, q2, fun c hc hcn => ?_⟩⟩
    obtain ⟨hcx, hcn⟩ := hback _ _ _ hcn
    obtain ⟨gG, hG, f1, f2, f3⟩ := hfs c hc hcn
    obtain ⟨g1', h1', q1', q2'⟩ := first_X (hpm c hc) (hg2 c hc) (hcl2 c hc) (ho2 c hc) f2 hl hcd hx hn ho hco hp (fun p hp' e => by
     rcases exB_no e with ⟨e1, e2⟩ | ⟨e1, _⟩
     ·exfalso
      -- j stands ahead of x, so c does
      have hpn : p < ops.size := by have := ((hpm c hc).p x hx).1; omega
      have hpc : p = c := by rw [← ((hpm c hc).s p hpn).2, e1]; exact hp1 c (hcr c hc).1
      subst hpc
      have hxj := (hcr x e2).1
      have : p < x := by
       unfold mvP at hp'
       rcases Nat.lt_or_ge x p with h9 | h9
       ·rw [if_pos h9] at hp'; omega
       ·omega
      have := hch p hc x e2 this rfl
      rw [hcn] at this; cases this
     ·exact absurd e1 ex) f1
    rw [q1] at q1'
    cases q1'
    exact ⟨gG, hG, q2', f2, f3⟩
  ·have hxj : x ≠ j := fun e => by subst e; rw [hj1] at hn; cases hn
   rcases hf with hf | ⟨c, hc, gG, hG, f1, f2, f3⟩
   ·obtain ⟨g1, h1, q1, q2⟩ := first_X (π := fun p => p) id_perm (fun _ _ => rfl) hcl ho1 hdis hl hcd hx hn ho hco hp (fun p hp' e => by
     rcases exB_no e with ⟨e1, _⟩ | ⟨e1, _⟩
     ·exact (congrArg (fun q => listed.getD q true) (show p = j from e1)).trans hj1
     ·exact absurd e1 hxj) hf
    exact ⟨g1, h1, q1, .inr ⟨hset _ _ _ hj1, .inl q2⟩⟩
   ·obtain ⟨g1, h1, q1, q2⟩ := first_X (hpm c hc) (hg2 c hc) (hcl2 c hc) (ho2 c hc) f2 hl hcd hx hn ho hco hp (fun p hp' e => by
     rcases exB_no e with ⟨e1, _⟩ | ⟨e1, _⟩
     ·rw [e1]; exact hj1
     ·exact absurd e1 hxj) f1
    exact ⟨g1, h1, q1, .inr ⟨hset _ _ _ hj1, .inr ⟨c, hc, gG, hG, q2, f2, f3⟩⟩⟩
 ·intro listed g h hl hall hJ E a w st
  have hnil : ∀ σ : Nat → Nat, (∀ p, p < ops.size → σ p < ops.size) → remX σ ops listed = [] := fun σ hσ => by
   unfold remX
   refine List.filter_eq_nil_iff.2 fun p hp => ?_
   rw [hall _ (hσ p (List.mem_range.1 hp))]; simp
  rcases hJ with ⟨hj0, _⟩ | ⟨_, hf | ⟨c, hc, gG, hG, hf, _, hq⟩⟩
  ·rw [hall j hj] at hj0; cases hj0
  ·rw [hnil _ (fun _ h => h)] at hf
   simp only [afold, Option.some.injEq, Prod.mk.injEq] at hf
   obtain ⟨rfl, rfl⟩ := hf
   exact hQ _ _ _ st
  ·rw [hnil _ (fun p hp => ((hpm c hc).s p hp).1)] at hf
   simp only [afold, Option.some.injEq, Prod.mk.injEq] at hf
   obtain ⟨rfl, rfl⟩ := hf
   exact hq _ _ _ st
 ·have hlt : i < ops.size := (Array.getElem?_eq_some_iff.1 ho).1
  simp [Array.getD, hlt] at hl
 ·rw [hrem _ (fun _ h => h)]; exact hf
 ·rw [hrem _ (fun p hp => ((hpm c hc).s p hp).1)]; exact h2 c hc

end
open Go.RowKit

theorem callsIn_any {ro : Option Nat} {n m : Nat} {P : Program} {f : FuncId} {args : Array Value} {w : World} {R : Ending → World → Prop} (h : CallsIn (Fw ro) n P f args w R) : CallsIn (Fw ro) m P f args w R :=
 ⟨h.1, fun cs _ => h.2 cs Fw_room⟩
theorem roundIn_any {ro : Option Nat} {n m : Nat} {P : Program} {l : Nat} {f : FuncId} {tmps : Array Value} {assign body : Code} {w : World} {R : Ending → World → Prop} (h : RoundIn (Fw ro) n P l f tmps assign body w R) : RoundIn (Fw ro) m P l f tmps assign body w R :=
 ⟨h.1, fun c cs _ => h.2 c cs Fw_room⟩
theorem Fw_in (l : Nat) : (Fw none).inRound l = Fw (some l) := rfl

def postR (B : Nat) (I : Nat → World → Prop) (Ix : World → Prop) (i : Nat) (W : World) : Exit → Act → World → Prop
 | .normal, _, W' => KeepsFrom B W W' ∧ I (i + 1) W'
 | .ret, _, W' => KeepsFrom B W W' ∧ Ix W'
 | _, _, _ => False

theorem wpIn_range {P : Program} {n : Nat} {g : Operand} {ps : Array Tmp} {assign body : Code} {Q : Exit → Act → World → Prop} {a : Act} {w : World}
  {gf : Nat} {lb : Array Value} (hg : a.eval g = .func (.func gf) #[] lb) (eg : ∀ args w, (callFunc gf args).run P w = .ok (.enter gf args) w)
  (len : Nat) (el : Nat → Value) (hps : ps.size = 1) (I : Nat → World → Prop) (Ix : World → Prop)
  (hI : ∀ i W W' row, I i W → W.grownBy W' row → (∀ r, row = some r → w.heap.size ≤ r ∧ ∃ o : Obj, W.heap[r]? = some o ∧ o.isCells = false) → I i W')
  (hIx : ∀ W W' row, Ix W → W.grownBy W' row → (∀ r, row = some r → w.heap.size ≤ r ∧ ∃ o : Obj, W.heap[r]? = some o ∧ o.isCells = false) → Ix W')
  (h0 : I 0 w)
  (hseq : ∀ (l : Nat) (J Jx : Nat → World → Prop) (W : World), (∀ i W W', J i W → W.grownBy W' none → J i W') → (∀ i W, J i W → I i W) →
    (∀ i W1, J i W1 → i < len → YieldAt (Fw none) 0 P l #[el i] W1 fun e W' => (e = .returned (.bool true) ∧ J (i + 1) W') ∨ (e = .returned (.bool false) ∧ Jx (i + 1) W')) → J 0 W →
    CallsIn (Fw none) 0 P gf (#[.func (.yield l) #[] #[]] ++ lb) W fun e W' => (∃ v, e = .returned v) ∧ (J len W' ∨ ∃ i, i ≤ len ∧ Jx i W'))
  (hround : ∀ (l i : Nat) (W : World), w.heap.size ≤ l → (∃ r, W.heap[l]? = some (.loop r)) → I i W → i < len →
    assign.wpIn (Fw (some l)) 0 P (Exit.then (fun a' W' => KeepsFrom w.heap.size W W' ∧ I i W ∧ ∀ W2, W'.grownBy W2 (some l) → (∃ o : Obj, W'.heap[l]? = some o ∧ o.isCells = false) → body.wpIn (Fw (some l)) 0 P (postR w.heap.size I Ix i W2) a' W2) (fun _ _ _ => False))
     { tmps := (ps.zip #[el i]).foldl (fun t (p, v) => t.setIfInBounds p v) a.tmps, defers := [] } W)
  (hdone : ∀ (D : Nat) (W : World), w.heap.size ≤ D → I len W → W.heap[D]? = some (.deferred (some [])) → Q .normal { a with defers := { target := .collected D, args := #[] } :: a.defers } W)
  (hstop : ∀ (D : Nat) (W : World), w.heap.size ≤ D → Ix W → W.heap[D]? = some (.deferred (some [])) → Code.ret.wpIn (Fw none) n P Q { a with defers := { target := .collected D, args := #[] } :: a.defers } W) :
  (Code.rangeFunc g ps assign body).wpIn (Fw none) n P Q a w := by
 refine wpIn_rangeFunc ?_
 intro fn hfn
 obtain ⟨rec, hrec⟩ : ∃ rec : LoopState → Option Code → Loop, rec = fun st pe => { state := st, pending := pe, fn, tmps := a.tmps, params := ps, assign, body, defers := w.heap.size } := ⟨_, rfl⟩
 obtain ⟨W1, hW1⟩ : ∃ W1, (w.alloc (.deferred (some []))).alloc (.loop (rec .ready none)) = W1 := ⟨_, rfl⟩
 have putI : ∀ {i : Nat} {W : World} {l : Nat} {o : Obj} (o' : Obj), I i W → w.heap.size ≤ l → W.heap[l]? = some o → o.isCells = false → I i (W.putObj l o') := fun o' hi hl ho hc =>
  hI _ _ _ _ hi (grownBy_putObj' _ _ o') (fun r e => by cases e; exact ⟨hl, _, ho, hc⟩)
 have putX : ∀ {W : World} {l : Nat} {o : Obj} (o' : Obj), Ix W → w.heap.size ≤ l → W.heap[l]? = some o → o.isCells = false → Ix (W.putObj l o') := fun o' hi hl ho hc =>
  hIx _ _ _ hi (grownBy_putObj' _ _ o') (fun r e => by cases e; exact ⟨hl, _, ho, hc⟩)
 have hL1 : W1.heap[w.heap.size + 1]? = some (.loop (rec .ready none)) := by
  rw [← hW1]; have := World.alloc_heap_new (w.alloc (.deferred (some []))) (.loop (rec .ready none)); rwa [World.size_alloc] at this
 have hK1 : W1.heap[w.heap.size]? = some (.deferred (some [])) := by
  rw [← hW1]; exact (Below.heap_alloc _ _ _ (by simp)).trans (World.alloc_heap_new w _)
 have hI1 : I 0 W1 := by
  rw [← hW1]
  exact hI _ _ _ none (hI _ _ _ none h0 (World.grownBy_alloc w _ none) (fun r e => by cases e)) (World.grownBy_alloc _ _ none) (fun r e => by cases e)
 refine ⟨w.heap.size + 1, [{ target := .collected w.heap.size, args := #[] }], W1, { target := .fn (.func gf) lb, args := #[.func (.yield (w.heap.size + 1)) #[] #[]] }, W1, gf,
  #[.func (.yield (w.heap.size + 1)) #[] #[]] ++ lb, W1, ?_, ?_, ?_, ?_, fun hh => (by rw [Fw_depth] at hh; cases hh), ?_⟩
 ·rw [Fw_round, ← hW1, hrec]; exact run_enterLoop_outer _ _ _ _ _
 ·simp only [resolve, hg]
  simp [go_sem]
 ·intro f' hf'; exact Fw_fn
 ·simp [invoke, go_sem, eg]
 ·refine callsIn_any (n := 0) ?_
  have keep : ∀ {W W' : World} {k : Nat} {o : Obj}, W.grownBy W' none → W.heap[k]? = some o → W'.heap[k]? = some o := fun {W W' k o} hg' hk =>
   (hg'.block k (Array.getElem?_eq_some_iff.1 hk).1 (fun e => by cases e)).trans hk
  refine CallsIn.mono (hseq (w.heap.size + 1)
   (fun i W => I i W ∧ W.heap[w.heap.size + 1]? = some (.loop (rec .ready none)) ∧ W.heap[w.heap.size]? = some (.deferred (some [])))
   (fun _ W => Ix W ∧ W.heap[w.heap.size + 1]? = some (.loop (rec .done (some .ret))) ∧ W.heap[w.heap.size]? = some (.deferred (some [])))
   W1 (fun i W W' hj hg' => ⟨hI _ _ _ none hj.1 hg' (fun r e => by cases e), keep hg' hj.2.1, keep hg' hj.2.2⟩) (fun i W hj => hj.1) ?_ ⟨hI1, hL1, hK1⟩) ?_
  ·-- one round
   rintro i W ⟨hi, hl, hk⟩ hlen
   have hy := run_yield (P := P) (args := #[el i]) hl (by rw [hrec]; exact hps.symm)
   rw [hrec] at hy
   refine ⟨fn, _, assign, body, hy, roundIn_of_wpIn hfn (wpIn_mono (hround _ i W (by omega) ⟨_, hl⟩ hi hlen) ?_)⟩
   clear hy
   intro e a' Wa hq
   cases e with
   | normal =>
     obtain ⟨hkf, _, hb⟩ := hq
     have hl' := hkf.same _ _ (by omega) hl rfl
     have hk' := hkf.same _ _ (Nat.le_refl _) hk rfl
     have hlt : w.heap.size + 1 < Wa.heap.size := (Array.getElem?_eq_some_iff.1 hl').1
     refine ⟨_, run_beginRound hl' (by rw [hrec]), ?_⟩
     have hl2 : (Wa.putObj (w.heap.size + 1) (.loop { rec .ready none with state := .busy })).heap[w.heap.size + 1]? = some (.loop { rec .ready none with state := .busy }) := World.putObj_heap_same hlt
     have hk2 : (Wa.putObj (w.heap.size + 1) (.loop { rec .ready none with state := .busy })).heap[w.heap.size]? = some (.deferred (some [])) := (World.putObj_heap_other (by omega)).trans hk'
     refine wpIn_mono (hb _ (grownBy_putObj' _ _ _) ⟨_, hl', rfl⟩) ?_
     have fin : ∀ (jump : Option Code) (W3 : World), KeepsFrom w.heap.size (Wa.putObj (w.heap.size + 1) (.loop { rec .ready none with state := .busy })) W3 →
       (Instr.endRound (w.heap.size + 1) jump).run P W3 = .ok (.bool jump.isNone) (W3.putObj (w.heap.size + 1) (.loop (rec (if jump.isNone then .ready else .done) jump))) ∧
       W3.heap[w.heap.size + 1]? = some (.loop { rec .ready none with state := .busy }) ∧
       (W3.putObj (w.heap.size + 1) (.loop (rec (if jump.isNone then .ready else .done) jump))).heap[w.heap.size + 1]? = some (.loop (rec (if jump.isNone then .ready else .done) jump)) ∧
       (W3.putObj (w.heap.size + 1) (.loop (rec (if jump.isNone then .ready else .done) jump))).heap[w.heap.size]? = some (.deferred (some [])) := fun jump W3 hk3 => by
      have hl3 := hk3.same _ _ (by omega) hl2 rfl
      have := run_endRound (P := P) jump hl3
      rw [hrec] at this ⊢
      exact ⟨this, by rw [hrec] at hl3; exact hl3, World.putObj_heap_same (Array.getElem?_eq_some_iff.1 hl3).1, (World.putObj_heap_other (by omega)).trans (hk3.same _ _ (Nat.le_refl _) hk2 rfl)⟩
     rintro e a3 W3 hp
     cases e with
     | normal =>
       obtain ⟨hk3, hi3⟩ := hp
       obtain ⟨hr, hl3, hl4, hk4⟩ := fin none W3 hk3
       exact ⟨_, _, hr, .inl ⟨rfl, putI _ hi3 (by omega) hl3 rfl, hl4, hk4⟩⟩
     | ret =>
       obtain ⟨hk3, hi3⟩ := hp
       obtain ⟨hr, hl3, hl4, hk4⟩ := fin (some .ret) W3 hk3
       exact ⟨_, _, hr, .inr ⟨rfl, putX _ hi3 (by omega) hl3 rfl, hl4, hk4⟩⟩
     | exit id => exact hp.elim
     | goto t => exact hp.elim
     | panic ch => exact hp.elim
     | outgrown => exact hp.elim
   | exit id => exact hq.elim
   | goto t => exact hq.elim
   | ret => exact hq.elim
   | panic ch => exact hq.elim
   | outgrown => exact hq.elim
  ·rintro e W2 ⟨⟨v, rfl⟩, (⟨hi, hl, hk⟩ | ⟨i, _, hi, hl, hk⟩)⟩
   ·exact ⟨none, _, by have := run_endLoop (P := P) hl (by rw [hrec]; simp); rw [hrec] at this; exact this, hdone _ _ (Nat.le_refl _) (putI _ hi (by omega) hl rfl) ((World.putObj_heap_other (by omega)).trans hk)⟩
   ·exact ⟨some .ret, _, by have := run_endLoop (P := P) hl (by rw [hrec]; simp); rw [hrec] at this; exact this, hstop _ _ (Nat.le_refl _) (putX _ hi (by omega) hl rfl) ((World.putObj_heap_other (by omega)).trans hk)⟩

abbrev SL := List (Nat × AV)
abbrev KT := SL → List AO → Prop

def conj : Option Prop → Prop → Prop
 | none, q => q
 | some p, q => p ∧ q
theorem conj_iff {C : Option Prop} {q : Prop} : conj C q ↔ holds C ∧ q := by cases C <;> simp [conj, holds]

def trim : List Nat → SL → SL
 | [], _ => []
 | j :: r, s => (j, look s j) :: trim r s
def put (d : Option Nat) (A : AV) (s : SL) : SL := match d with | some d => (d, A) :: s | none => s

def chkC : List (Nat × Nat) → SL → Prop → Prop
 | [], _, q => q
 | (p, r) :: t, s, q => match look s p with
   | .ptr i _ _ => match objOf (look s r) with
     | some j => match Nat.beq i j with | true => False | false => chkC t s q
     | none => False
   | .ms _ i _ _ _ _ => match objOf (look s r) with
     | some j => match Nat.beq i j with | true => False | false => chkC t s q
     | none => False
   | .rop _ => chkC t s q
   | .sl _ _ _ _ _ => chkC t s q
   | _ => False
theorem chkC_ok : ∀ {cf : List (Nat × Nat)} {s : SL} {q : Prop}, chkC cf s q → q ∧ ∀ x ∈ cf, Dis (look s x.1) (look s x.2)
 | [], s, q, h => ⟨h, fun x hx => by cases hx⟩
 | (p, r) :: t, s, q, h => by
   simp only [chkC] at h
   split at h
   ·rename_i i e o hp
    split at h
    ·rename_i j hr
     split at h
     ·exact h.elim
     ·rename_i hb
      obtain ⟨k1, k2⟩ := chkC_ok h
      refine ⟨k1, fun x hx => ?_⟩
      rcases List.mem_cons.1 hx with rfl | hx
      ·exact .inl ⟨i, j, by rw [hp]; rfl, hr, fun e => by subst e; simp at hb⟩
      ·exact k2 x hx
    ·exact h.elim
   ·rename_i nl i e o n sz hp
    split at h
    ·rename_i j hr
     split at h
     ·exact h.elim
     ·rename_i hb
      obtain ⟨k1, k2⟩ := chkC_ok h
      refine ⟨k1, fun x hx => ?_⟩
      rcases List.mem_cons.1 hx with rfl | hx
      ·exact .inl ⟨i, j, by rw [hp]; rfl, hr, fun e => by subst e; simp at hb⟩
      ·exact k2 x hx
    ·exact h.elim
   ·rename_i c hp
    obtain ⟨k1, k2⟩ := chkC_ok h
    refine ⟨k1, fun x hx => ?_⟩
    rcases List.mem_cons.1 hx with rfl | hx
    ·exact .inr (by rw [hp]; rfl)
    ·exact k2 x hx
   ·rename_i hp
    obtain ⟨k1, k2⟩ := chkC_ok h
    refine ⟨k1, fun x hx => ?_⟩
    rcases List.mem_cons.1 hx with rfl | hx
    ·exact .inr (by rw [hp]; rfl)
    ·exact k2 x hx
   ·exact h.elim

def fork : Bool → Prop → Prop → Prop
 | true, a, _ => a
 | false, _, b => b
theorem fork_true (a b : Prop) : fork true a b = a := rfl
theorem fork_false (a b : Prop) : fork false a b = b := rfl
theorem fork_intro {p : Bool} {a b : Prop} (h1 : p = true → a) (h2 : p = false → b) : fork p a b := by
 cases p
 ·exact h2 rfl
 ·exact h1 rfl
def onER : ER → KT → Option Nat → SL → List AO → Prop
 | .v C A, k, d, s, h => conj C (k (put d A s) h)
 | .e C A h', k, d, s, _ => conj C (k (put d A s) h')
 | .k C h', k, d, s, _ => conj C (k (put d .undef s) h')
 | .no, _, _, _, _ => False
def doOp (sp : Sp) (co : CO) (k : KT) (s : SL) (h : List AO) : Prop := onER (evc sp (look s) h co) k co.d s h
def noOp (co : CO) (k : KT) (s : SL) (h : List AO) : Prop := k (put co.d .undef s) h
def ifB : Bool → Bool → Sp → CO → KT → SL → List AO → Prop
 | true, true, sp, co, k, s, h => doOp sp co k s h
 | false, false, sp, co, k, s, h => doOp sp co k s h
 | true, false, _, co, k, s, h => noOp co k s h
 | false, true, _, co, k, s, h => noOp co k s h
def onG : AV → Nat → Bool → Sp → CO → KT → SL → List AO → Prop
 | .bool p, d, b, sp, co, k, s, h => fork p (ifB true b sp co k ((d, .bool true) :: s) h) (ifB false b sp co k ((d, .bool false) :: s) h)
 | .undef, _, _, _, co, k, s, h => noOp co k s h
 | _, _, _, _, _, _, _, _ => False
def onGd : Option (Nat × Bool) → Sp → CO → KT → SL → List AO → Prop
 | none, sp, co, k, s, h => doOp sp co k s h
 | some (d, b), sp, co, k, s, h => onG (look s d) d b sp co k s h
def runOps (sp : Sp) (keep : List Nat) (cf : List (Nat × Nat)) : List CO → KT → SL → List AO → Prop
 | [], k, s, h => chkC cf s (k (trim keep s) h)
 | co :: r, k, s, h => onGd co.g sp co (runOps sp keep cf r k) s h

structure LI where
 X : Type
 x0 : X
 pre : X → Prop
 inv : X → SL × List AO
 mu : X → Nat
 ren : Bool
 peel : Bool := false
 fin : Option (List X) := none

def eqS : SL → SL → Prop
 | [], _ => True
 | (j, v) :: t, s => look s j = v ∧ eqS t s
def sbelow (k : Nat) : SL → Bool
 | [] => true
 | (_, v) :: t => match below k v with | true => sbelow k t | false => false
def htake : List AO → Nat → List AO
 | _, 0 => []
 | [], _ + 1 => []
 | a :: l, n + 1 => a :: htake l n
theorem htake_eq : ∀ (l : List AO) (n : Nat), htake l n = l.take n
 | _, 0 => by simp [htake]
 | [], _ + 1 => by simp [htake]
 | a :: l, n + 1 => by simp [htake, htake_eq l n]
def Tell (a b : AV) : Prop := ∀ (E : Env) (v : Value), rel E a v → rel E b v
def TellC (c d : AV) : Prop := ∀ (E : Env) (vs : List Value), relC E c vs → relC E d vs
def RowEq (a b : AV) : Prop := a = b ∨ (isC b = true ∧ cells a = cells b) ∨ TellC a b
theorem RowEq.inl {a b : AV} (h : a = b) : RowEq a b := Or.inl h
theorem RowEq.inr {a b : AV} (h : isC b = true ∧ cells a = cells b) : RowEq a b := Or.inr (Or.inl h)
theorem RowEq.tell {a b : AV} (h : TellC a b) : RowEq a b := Or.inr (Or.inr h)
def eqO : List AO → List AO → Prop
 | [], [] => True
 | b :: t', a :: t => (a.ep = b.ep ∧ a.fz = b.fz ∧ RowEq a.c b.c) ∧ eqO t' t
 | _, _ => False
def eqH (k0 : Nat) (h : List AO) (s' : SL) (h' : List AO) : Prop :=
 match Nat.beq (hlen h) (hlen h') with
 | true => eqO h' h
 | false => match Nat.ble k0 (hlen h') with
   | true => eqO h' (htake h (hlen h')) ∧ hbelow (hlen h') (htake h (hlen h')) = true ∧ sbelow (hlen h') s' = true
   | false => False

def nget : List (Option Nat) → Nat → Option Nat
 | [], _ => none
 | x :: _, 0 => x
 | _ :: l, n + 1 => nget l n
theorem nget_eq : ∀ (l : List (Option Nat)) (n : Nat), nget l n = (l[n]?).join
 | [], _ => by simp [nget]
 | x :: _, 0 => by simp [nget]
 | _ :: l, n + 1 => by simp [nget, nget_eq l n]
inductive Same (ns : List (Option Nat)) (h h' : List AO) : AV → AV → Prop where
 | refl {v : AV} (hb : below 0 v = true) : Same ns h h' v v
 | tell {v u : AV} (ht : Tell u v) (hb : below 0 v = true) : Same ns h h' v u
 | any {v : AV} : Same ns h h' .any v
 | nil {i e o sz n sz' : Nat} {c : AV} {f : Bool} : Same ns h h' (.ms true i e o 0 sz) (.sl true n sz' c f)
 | nilm {i e o sz i' e' o' n sz' : Nat} : Same ns h h' (.ms true i e o 0 sz) (.ms true i' e' o' n sz')
 | ms {nil : Bool} {j i e e' o n sz : Nat} {a b : AO} (hn : nget ns j = some i) (ha : hget h i = some a) (hb : hget h' j = some b) (ea : e = a.ep) (eb : e' = b.ep) : Same ns h h' (.ms nil j e' o n sz) (.ms nil i e o n sz)
 | ptr {j i e e' o : Nat} {a b : AO} (hn : nget ns j = some i) (ha : hget h i = some a) (hb : hget h' j = some b) (ea : e = a.ep) (eb : e' = b.ep) : Same ns h h' (.ptr j e' o) (.ptr i e o)
 | aggr {l m : List AV} (hl : l.length = m.length) (hs : ∀ (i : Nat) (h1 : i < l.length) (h2 : i < m.length), Same ns h h' l[i] m[i]) : Same ns h h' (.agg l) (.agg m)
 | fnr {f : Nat} {l m : List AV} (hl : l.length = m.length) (hs : ∀ (i : Nat) (h1 : i < l.length) (h2 : i < m.length), Same ns h h' l[i] m[i]) : Same ns h h' (.fn f l) (.fn f m)
 | bfr {f : Nat} {l m : List AV} (hl : l.length = m.length) (hs : ∀ (i : Nat) (h1 : i < l.length) (h2 : i < m.length), Same ns h h' l[i] m[i]) : Same ns h h' (.bf f l) (.bf f m)
def SameL (ns : List (Option Nat)) (h h' : List AO) : List AV → List AV → Prop
 | [], [] => True
 | a :: l, b :: m => Same ns h h' a b ∧ SameL ns h h' l m
 | _, _ => False
theorem SameL.spec {ns : List (Option Nat)} {h h' : List AO} : ∀ {l m : List AV}, SameL ns h h' l m → l.length = m.length ∧ ∀ (i : Nat) (h1 : i < l.length) (h2 : i < m.length), Same ns h h' l[i] m[i]
 | [], [], _ => ⟨rfl, fun i h => by simp at h⟩
 | a :: l, b :: m, hs => by
   obtain ⟨h1, h2⟩ := SameL.spec hs.2
   refine ⟨by simp [h1], fun i k1 k2 => ?_⟩
   cases i with
   | zero => exact hs.1
   | succ i => simp only [List.getElem_cons_succ]; exact h2 i _ _
 | [], _ :: _, hs => hs.elim
 | _ :: _, [], hs => hs.elim
theorem Same.agg {ns : List (Option Nat)} {h h' : List AO} {l m : List AV} (hs : SameL ns h h' l m) : Same ns h h' (.agg l) (.agg m) := .aggr hs.spec.1 hs.spec.2
theorem Same.fn {ns : List (Option Nat)} {h h' : List AO} {f : Nat} {l m : List AV} (hs : SameL ns h h' l m) : Same ns h h' (.fn f l) (.fn f m) := .fnr hs.spec.1 hs.spec.2
theorem Same.bf {ns : List (Option Nat)} {h h' : List AO} {f : Nat} {l m : List AV} (hs : SameL ns h h' l m) : Same ns h h' (.bf f l) (.bf f m) := .bfr hs.spec.1 hs.spec.2
def SameC (ns : List (Option Nat)) (h h' : List AO) (c d : AV) : Prop := (c = d ∧ below 0 c = true) ∨ (∃ l m, c = .agg l ∧ d = .agg m ∧ SameL ns h h' l m) ∨ (TellC d c ∧ below 0 c = true)
theorem SameC.refl {ns : List (Option Nat)} {h h' : List AO} {c : AV} (hb : below 0 c = true) : SameC ns h h' c c := .inl ⟨rfl, hb⟩
theorem SameC.tell {ns : List (Option Nat)} {h h' : List AO} {c d : AV} (ht : TellC d c) (hb : below 0 c = true) : SameC ns h h' c d := .inr (.inr ⟨ht, hb⟩)
theorem SameC.agg {ns : List (Option Nat)} {h h' : List AO} {l m : List AV} (hs : SameL ns h h' l m) : SameC ns h h' (.agg l) (.agg m) := .inr (.inl ⟨l, m, rfl, rfl, hs⟩)
def sameS (ns : List (Option Nat)) (h h' : List AO) : SL → SL → Prop
 | [], _ => True
 | (j, v) :: t, s => Same ns h h' v (look s j) ∧ sameS ns h h' t s
def emptyC : AV → Bool
 | .agg l => match l with | [] => true | _ => false
 | .ab l => match l with | [] => true | _ => false
 | .rw n _ _ => Nat.beq n 0
 | _ => false
def sameO (k0 : Nat) (ns : List (Option Nat)) (h h' : List AO) (j : Nat) (b : AO) : Option Nat → Prop
 | some i => match hget h i with
   | some a => (Nat.ble k0 j = true ∨ (i = j ∧ a.ep = b.ep)) ∧ a.fz = b.fz ∧ SameC ns h h' b.c a.c
   | none => False
 | none => Nat.ble k0 j = true ∧ b.fz = false ∧ emptyC b.c = true
def sameH (k0 : Nat) (ns : List (Option Nat)) (h h' : List AO) : Nat → List (Option Nat) → List AO → Prop
 | _, [], [] => True
 | j, x :: r, b :: t => sameO k0 ns h h' j b x ∧ sameH k0 ns h h' (j + 1) r t
 | _, _, _ => False
def inN : List (Option Nat) → Nat → Bool
 | [], _ => false
 | some j :: r, i => match Nat.beq j i with | true => true | false => inN r i
 | none :: r, i => inN r i
def nodupN : List (Option Nat) → Bool
 | [] => true
 | some i :: r => match inN r i with | true => false | false => nodupN r
 | none :: r => nodupN r

def fits (ren : Bool) (k0 : Nat) (s : SL) (h : List AO) (t : SL × List AO) : Prop :=
 match ren with
 | false => eqS t.1 s ∧ eqH k0 h t.1 t.2
 | true => ∃ ns : List (Option Nat), nodupN ns = true ∧ sameS ns h t.2 t.1 s ∧ Nat.ble k0 (hlen t.2) = true ∧ sameH k0 ns h t.2 0 ns t.2
def loopK (k0 : Nat) (L : LI) (x : L.X) (s : SL) (h : List AO) : Prop := ∃ x', L.pre x' ∧ L.mu x' < L.mu x ∧ fits L.ren k0 s h (L.inv x')

inductive RV where
 | t (n : Nat) | c (a : Nat) (n : Option Nat)
def resv (sp : Sp) (s : SL) (h : List AO) : List RV → Option (Option Prop × List AV)
 | [] => some (none, [])
 | .t n :: r => match resv sp s h r with | some (C, l) => some (C, look s n :: l) | none => none
 | .c a n :: r => match ev sp (look s) h (.load n (.t a)) with
   | .v D A => match resv sp s h r with | some (C, l) => some (both D C, A :: l) | none => none
   | _ => none
def one : List AV → AV
 | [a] => a
 | l => .tup l
def frzR : Nat → List AO → Option (Option Prop × List AO)
 | 0, h => some (none, h)
 | i + 1, h => match frzI h i with
   | some (C, h') => match frzR i h' with
     | some (D, h'') => some (both C D, h'')
     | none => none
   | none => none
def ownF (own : Bool) (kn : Nat) (h : List AO) (l : List AV) : Option (Option Prop × List AV × List AO) :=
 match own with
 | true => some (none, l, h)
 | false => match frzL h l with
   | some (C, l', h') => match frzR kn h' with
     | some (D, h'') => some (both C D, l', h'')
     | none => none
   | none => none
def leafK (sp : Sp) (res : List RV) (own : Bool) (kn : Nat) (K : AV → List AO → Prop) (s : SL) (h : List AO) : Prop :=
 match resv sp s h res with
 | some (C, l) => match ownF own kn h l with
   | some (D, l', h') => match Nat.beq (hlen h') kn with
     | true => conj C (conj D (K (one l') h'))
     | false => conj C (conj D (hbelow kn (htake h' kn) = true ∧ belowL kn l' = true ∧ kn ≤ hlen h' ∧ K (one l') (htake h' kn)))
   | none => False
 | none => False

structure RI where
 n : Nat
 inv : Nat → SL × List AO
 ren : Bool
 pre : Nat → Prop := fun _ => True
structure IT where
 c : CC
 N : Nat
 keep : List Nat
structure G where
 sp : Sp
 keep : List Nat
 k0 : Nat
 inv : Nat → SL → List AO → LI
 rinv : RI := { n := 0, inv := fun _ => ([], []), ren := false }
 rf : List Nat := []
 tn : Nat := 0
 its : List (Nat × IT) := []
 iinv : Nat → SL → List AO → LI := inv

def xfB : Bool → KT → KT → KT
 | true, k, _, s, h => k s h
 | false, _, k, s, h => k s h
def onB : AV → KT → KT → KT
 | .bool p, k, l, s, h => fork p (k s h) (l s h)
 | _, _, _, _, _ => False
def xfind : List (Nat × KT) → Nat → KT
 | [], _, _, _ => False
 | (j, k) :: r, i, s, h => xfB (Nat.beq j i) k (xfind r i) s h

def startK (k0 : Nat) (L : LI) : KT := fun s h => fits L.ren k0 s h (L.inv L.x0) ∧ L.pre L.x0
def entryK (k0 : Nat) (L : LI) : KT := fun s h => ∃ x, L.pre x ∧ fits L.ren k0 s h (L.inv x)
def peelB : Bool → KT → KT → KT
 | true, a, _, s, h => a s h
 | false, _, b, s, h => b s h
def allX {X : Type} : List X → (X → Prop) → Prop
 | [], _ => True
 | x :: l, f => f x ∧ allX l f
def finB {X : Type} : Option (List X) → (X → Prop) → (X → Prop) → Prop
 | none, pre, f => ∀ x, pre x → f x
 | some l, pre, f => (∀ x, pre x → x ∈ l) ∧ allX l f
theorem finB_ok {X : Type} {o : Option (List X)} {pre f : X → Prop} (h : finB o pre f) : ∀ x, pre x → f x := by
 cases o with
 | none => exact h
 | some l =>
   obtain ⟨h1, h2⟩ := h
   have key : ∀ {l : List X}, allX l f → ∀ x ∈ l, f x := fun {l} => by
    induction l with
    | nil => intro _ x hx; cases hx
    | cons y l ih =>
      intro h x hx
      rcases List.mem_cons.1 hx with rfl | hx
      ·exact h.1
      ·exact ih h.2 x hx
   exact fun x hx => key h2 x (h1 x hx)
def onL (Γ : G) : List (Nat × KT) → (Nat → LI) → (KT → List (Nat × KT) → KT → KT) → KT → KT
 | (id, k) :: X, L, body, r, s, h => peelB (L id).peel (body (entryK Γ.k0 (L id)) ((id, k) :: X) r) (startK Γ.k0 (L id)) s h ∧
      finB (L id).fin (L id).pre (fun x => body (loopK Γ.k0 (L id) x) ((id, k) :: X) r ((L id).inv x).1 ((L id).inv x).2)
 | [], _, _, _, _, _ => False

def noR : CC → Bool
 | .seq a b => match noR a with | true => noR b | false => false
 | .cond _ a b => match noR a with | true => noR b | false => false
 | .block _ a => noR a
 | .loop _ => false
 | .rangeF _ _ _ _ => false
 | .alt _ _ _ => false
 | .skip | .ret | .bad | .reg _ _ | .exit _ => true
def rfind : List Nat → Nat → Bool
 | [], _ => false
 | j :: r, k => match Nat.beq j k with | true => true | false => rfind r k
def fdShape : List AV → Bool
 | [] => true
 | .int _ :: .sl _ _ _ _ _ :: .bool _ :: r => fdShape r
 | _ => false
def elT (l : List AV) (i : Nat) : AV := match ltake (ldrop l (i * 3)) 3 with | some m => .agg m | none => .any
def allN : Nat → (Nat → Prop) → Prop
 | 0, _ => True
 | n + 1, f => allN n f ∧ f n
def endR (Γ : G) (j : Nat) : KT := fun _ h' => Γ.rinv.pre (j + 1) ∧ fits Γ.rinv.ren Γ.k0 (Γ.rinv.inv j).1 h' (Γ.rinv.inv (j + 1))
def retR (Γ : G) (r : KT) (j : Nat) : KT := fun _ h' => r (Γ.rinv.inv j).1 h'
def failK : KT := fun _ _ => False
def rangeP (Γ : G) (p : Nat) (l : List AV) (ra rb : KT → KT → KT) (k r : KT) (s : SL) (h : List AO) : Prop :=
 (Γ.rinv.pre 0 ∧ fits Γ.rinv.ren Γ.k0 s h (Γ.rinv.inv 0)) ∧ allN Γ.rinv.n (fun j => Γ.rinv.pre j → ra (rb (endR Γ j) (retR Γ r j)) failK ((p, elT l j) :: (Γ.rinv.inv j).1) (Γ.rinv.inv j).2) ∧ (Γ.rinv.pre Γ.rinv.n → k (Γ.rinv.inv Γ.rinv.n).1 (Γ.rinv.inv Γ.rinv.n).2)
def onR (Γ : G) (ok : Bool) (v : AV) (ps : List Nat) (ra rb : KT → KT → KT) (k r : KT) (s : SL) (h : List AO) : Prop :=
 match ok, v, ps with
 | true, .fn F [.ptr i e o], [p] => match rfind Γ.rf F with
   | true => match hget h i with
     | some ob => match Nat.beq ob.ep e with
       | true => match Nat.beq o 0 with
         | true => match ob.c with
           | .agg [.sl false n sz (.agg l) fl] => match Nat.beq sz 3 with
             | true => match Nat.beq n Γ.rinv.n with
               | true => match fdShape l with
                 | true => Nat.blt p Γ.tn = true ∧ Nat.blt 0 n = true ∧ belowL 0 l = true ∧ n * 8 ≤ 140737488351232 ∧ rangeP Γ p l ra rb k r s (hset h i { ob with fz := true })
                 | false => False
               | false => False
             | false => False
           | _ => False
         | false => False
       | false => False
     | none => False
   | false => False
 | _, _, _ => False

def argS : Nat → List AV → SL
 | _, [] => []
 | i, A :: l => (i, A) :: argS (i + 1) l
abbrev YT := Nat → List AV → Option Nat → KT → KT
def isDyn : List CO → Bool
 | [] => false
 | co :: r => match co.o with | .call (.t _) _ => true | _ => isDyn r
def doYo (sp : Sp) (Y : YT) (co : CO) (k : KT) (s : SL) (h : List AO) : AV → List X → Prop
 | .yl l, as => Y l (xvs (look s) as) co.d k s h
 | _, _ => doOp sp co k s h
def doY (sp : Sp) (Y : YT) (co : CO) (k : KT) (s : SL) (h : List AO) : Prop :=
 match co.o with
 | .call (.t t) as => doYo sp Y co k s h (look s t) as
 | _ => doOp sp co k s h
def ifBY : Bool → Bool → Sp → YT → CO → KT → SL → List AO → Prop
 | true, true, sp, Y, co, k, s, h => doY sp Y co k s h
 | false, false, sp, Y, co, k, s, h => doY sp Y co k s h
 | true, false, _, _, co, k, s, h => noOp co k s h
 | false, true, _, _, co, k, s, h => noOp co k s h
def onGY : AV → Nat → Bool → Sp → YT → CO → KT → SL → List AO → Prop
 | .bool p, d, b, sp, Y, co, k, s, h => fork p (ifBY true b sp Y co k ((d, .bool true) :: s) h) (ifBY false b sp Y co k ((d, .bool false) :: s) h)
 | .undef, _, _, _, _, co, k, s, h => noOp co k s h
 | _, _, _, _, _, _, _, _, _ => False
def onGdY : Option (Nat × Bool) → Sp → YT → CO → KT → SL → List AO → Prop
 | none, sp, Y, co, k, s, h => doY sp Y co k s h
 | some (d, b), sp, Y, co, k, s, h => onGY (look s d) d b sp Y co k s h
def runOpsY (sp : Sp) (keep : List Nat) (Y : YT) : List CO → KT → SL → List AO → Prop
 | [], k, s, h => k (trim keep s) h
 | co :: r, k, s, h => onGdY co.g sp Y co (runOpsY sp keep Y r k) s h
def dynB : Bool → Sp → List Nat → List (Nat × Nat) → YT → List CO → KT → SL → List AO → Prop
 | true, sp, kp, _, Y, ops, k, s, h => runOpsY sp kp Y ops k s h
 | false, sp, kp, cf, _, ops, k, s, h => runOps sp kp cf ops k s h
def runI (Γ : G) (kp : List Nat) (Y : YT) : CC → KT → List (Nat × KT) → KT → SL → List AO → Prop
 | .skip, k, _, _, s, h => k s h
 | .ret, _, _, r, s, h => r s h
 | .bad, _, _, _, _, _ => False
 | .reg ops cf, k, _, _, s, h => dynB (isDyn ops) Γ.sp kp cf Y ops k s h
 | .seq a b, k, X, r, s, h => runI Γ kp Y a (runI Γ kp Y b k X r) X r s h
 | .cond x a b, k, X, r, s, h => onB (xv (look s) x) (runI Γ kp Y a k X r) (runI Γ kp Y b k X r) s h
 | .block id c, k, X, r, s, h => runI Γ kp Y c k ((id, k) :: X) r s h
 | .exit id, _, X, _, s, h => xfind X id s h
 | .loop c, _, X, r, s, h => onL Γ X (fun id => Γ.iinv id s h) (runI Γ kp Y c) r s h
 | .rangeF _ _ _ _, _, _, _, _, _ => False
 | .alt _ _ _, _, _, _, _, _ => False
def shS (S : Nat) : SL → SL
 | [] => []
 | (k, v) :: t => (k + S, v) :: shS S t
def unSb : Bool → Nat → AV → SL → SL
 | true, k, v, t => (k, v) :: t
 | false, _, _, t => t
def unS (S : Nat) : SL → SL
 | [] => []
 | (k, v) :: t => unSb (Nat.ble S k) (k - S) v (unS S t)
def kys : SL → List Nat
 | [] => []
 | (k, _) :: t => k :: kys t
def appN : List Nat → List Nat → List Nat
 | [], m => m
 | a :: l, m => a :: appN l m
def appS : SL → SL → SL
 | [], m => m
 | a :: l, m => a :: appS l m
def bindP : List Nat → List AV → SL → SL
 | p :: ps, a :: as, s => bindP ps as ((p, a) :: s)
 | _, _, s => s
def ltAll : List Nat → Nat → Bool
 | [], _ => true
 | p :: r, n => match Nat.blt p n with | true => ltAll r n | false => false
def nlen : List Nat → Nat
 | [] => 0
 | _ :: l => nlen l + 1
def yieldM (ps : List Nat) (ra rb : KT → KT → KT) (S : Nat) (as : List AV) (d : Option Nat) (k : KT) (s : SL) (h : List AO) : AV → Bool → Prop
 | .bool false, true => ra (rb (fun _ h' => k (put d (.bool true) s) h') (fun _ h' => k (put d (.bool false) ((S, .bool true) :: s)) h')) failK (bindP ps as (unS (S + 1) s)) h
 | _, _ => False
def yieldK (l0 : Nat) (ps : List Nat) (ra rb : KT → KT → KT) (S : Nat) : YT := fun l as d k s h => l = l0 ∧ yieldM ps ra rb S as d k s h (look s S) (Nat.beq (llen as) (nlen ps))
def finM (S : Nat) (k r : KT) (s : SL) (h : List AO) : AV → Prop
 | .bool true => r (unS (S + 1) s) h
 | .bool false => k (unS (S + 1) s) h
 | _ => False
def finI (S : Nat) (k r : KT) : KT := fun s h => finM S k r s h (look s S)
def ifindB : Bool → IT → Option IT → Option IT
 | true, it, _ => some it
 | false, _, o => o
def ifind : List (Nat × IT) → Nat → Option IT
 | [], _ => none
 | (j, it) :: r, k => ifindB (Nat.beq j k) it (ifind r k)
def onI (Γ : G) (it : IT) (cap : List AV) (ps : List Nat) (ra rb : KT → KT → KT) (k r : KT) (s : SL) (h : List AO) : Prop :=
 (ltAll ps Γ.tn = true ∧ Nat.blt (llen cap) it.N = true) ∧ ∀ l : Nat, runI Γ (appN it.keep (it.N :: kys (shS (it.N + 1) s))) (yieldK l ps ra rb it.N) it.c (finI it.N k r) [] (finI it.N k r)
   ((0, .yl l) :: appS (argS 1 cap) ((it.N, .bool false) :: shS (it.N + 1) s)) h
def onIo (Γ : G) (ok : Bool) (v : AV) (cap : List AV) (ps : List Nat) (ra rb : KT → KT → KT) (k r : KT) (s : SL) (h : List AO) : Option IT → Prop
 | none => onR Γ ok v ps ra rb k r s h
 | some it => match ok with | true => onI Γ it cap ps ra rb k r s h | false => False
def onRI (Γ : G) (ok : Bool) (v : AV) (ps : List Nat) (ra rb : KT → KT → KT) (k r : KT) (s : SL) (h : List AO) : Prop :=
 match v with
 | .fn F cap => onIo Γ ok v cap ps ra rb k r s h (ifind Γ.its F)
 | _ => False

def allR (sp : Sp) (keep : List Nat) : List (List CO × List (Nat × Nat)) → KT → SL → List AO → Prop
 | [], _, _, _ => True
 | (o, c) :: l, k, s, h => runOps sp keep c o k s h ∧ allR sp keep l k s h
theorem allR_mem {sp : Sp} {keep : List Nat} {k : KT} {s : SL} {h : List AO} : ∀ {l : List (List CO × List (Nat × Nat))}, allR sp keep l k s h → ∀ x ∈ l, runOps sp keep x.2 x.1 k s h
 | [], _, _, hx => by cases hx
 | (o, c) :: l, hl, x, hx => by
   rcases List.mem_cons.1 hx with rfl | hx
   ·exact hl.1
   ·exact allR_mem hl.2 x hx
def run (Γ : G) : CC → KT → List (Nat × KT) → KT → SL → List AO → Prop
 | .skip, k, _, _, s, h => k s h
 | .ret, _, _, r, s, h => r s h
 | .bad, _, _, _, _, _ => False
 | .reg ops cf, k, _, _, s, h => runOps Γ.sp Γ.keep cf ops k s h
 | .alt ops cf l, k, _, _, s, h => runOps Γ.sp Γ.keep cf ops k s h ∧ allR Γ.sp Γ.keep l k s h
 | .seq a b, k, X, r, s, h => run Γ a (run Γ b k X r) X r s h
 | .cond x a b, k, X, r, s, h => onB (xv (look s) x) (run Γ a k X r) (run Γ b k X r) s h
 | .block id c, k, X, r, s, h => run Γ c k ((id, k) :: X) r s h
 | .exit id, _, X, _, s, h => xfind X id s h
 | .loop c, _, X, r, s, h => onL Γ X (fun id => Γ.inv id s h) (run Γ c) r s h
 | .rangeF x ps a b, k, _, r, s, h => onRI Γ (match noR a with | true => noR b | false => false) (xv (look s) x) ps (fun k r => run Γ a k [] r) (fun k r => run Γ b k [] r) k r s h

theorem look_trim (keep : List Nat) (s : SL) (k : Nat) : look (trim keep s) k = look s k ∨ look (trim keep s) k = .any := by
 induction keep with
 | nil => exact .inr rfl
 | cons j r ih =>
   simp only [trim, look_cons]
   split
   ·rename_i hb; rw [Nat.eq_of_beq_eq_true hb]; exact .inl rfl
   ·exact ih
theorem look_put (d : Option Nat) (A : AV) (s : SL) : look (put d A s) = upd (look s) d A := by
 funext k
 cases d with
 | none => rfl
 | some d =>
   simp only [put, look_cons, upd]
   split
   ·rename_i hb; rw [if_pos (Nat.eq_of_beq_eq_true hb).symm]
   ·rename_i hb; rw [if_neg]; intro e; subst e; simp at hb
theorem look_known {d : Nat} {s : SL} {A : AV} (h : look s d = A) : look ((d, A) :: s) = look s := by
 funext k
 simp only [look_cons]
 split
 ·rename_i hb; rw [← Nat.eq_of_beq_eq_true hb]; exact h.symm
 ·rfl

theorem range_afold {sp : Sp} {cs : List CO} : ∀ (n j : Nat) (st), j + n = cs.length → afold sp cs (List.range' j n) st = (cs.drop j).foldlM (fun st co => astep sp co st) st
 | 0, j, st, h => by
   have : cs.drop j = [] := by simp; omega
   rw [this]; rfl
 | n + 1, j, st, h => by
   have hj : j < cs.length := by omega
   rw [List.drop_eq_getElem_cons hj, List.range'_succ]
   simp only [afold, List.getElem?_eq_getElem hj, List.foldlM_cons]
   cases astep sp cs[j] st with
   | none => rfl
   | some s => exact range_afold n (j + 1) s (by omega)

theorem runOps_ok {sp : Sp} {keep : List Nat} {cf : List (Nat × Nat)} {k : KT} : ∀ (cs : List CO) (s : SL) (h : List AO), runOps sp keep cf cs k s h → ∃ s' h', cs.foldlM (fun st co => astep sp co st) (look s, h) = some (look s', h') ∧ k (trim keep s') h' ∧ ∀ x ∈ cf, Dis (look s' x.1) (look s' x.2)
 | [], s, h, hr => ⟨s, h, rfl, chkC_ok hr⟩
 | co :: r, s, h, hr => by
   have step : ∀ {s1 : SL}, look s1 = look s → gd (look s) co.g = some true →
     doOp sp co (runOps sp keep cf r k) s1 h → ∃ s' h', (co :: r).foldlM (fun st co => astep sp co st) (look s, h) = some (look s', h') ∧ k (trim keep s') h' ∧ ∀ x ∈ cf, Dis (look s' x.1) (look s' x.2) := fun {s1} e hg hm => by
    simp only [List.foldlM_cons]
    unfold astep
    simp only [hg]
    rw [← e]
    unfold doOp at hm
    unfold onER at hm
    split at hm
    ·rename_i C A he
     obtain ⟨hC, hm⟩ := conj_iff.1 hm
     obtain ⟨s', h', q1, q2⟩ := runOps_ok r _ _ hm
     rw [look_put] at q1
     refine ⟨s', h', ?_, q2⟩
     rw [he]; simp only [hC, if_true]; exact q1
    ·rename_i C A h1 he
     obtain ⟨hC, hm⟩ := conj_iff.1 hm
     obtain ⟨s', h', q1, q2⟩ := runOps_ok r _ _ hm
     rw [look_put] at q1
     refine ⟨s', h', ?_, q2⟩
     rw [he]; simp only [hC, if_true]; exact q1
    ·rename_i C h1 he
     obtain ⟨hC, hm⟩ := conj_iff.1 hm
     obtain ⟨s', h', q1, q2⟩ := runOps_ok r _ _ hm
     rw [look_put] at q1
     refine ⟨s', h', ?_, q2⟩
     rw [he]; simp only [hC, if_true]; exact q1
    ·exact hm.elim
   have skip : ∀ {s1 : SL}, look s1 = look s → gd (look s) co.g = some false → runOps sp keep cf r k (put co.d .undef s1) h → ∃ s' h', (co :: r).foldlM (fun st co => astep sp co st) (look s, h) = some (look s', h') ∧ k (trim keep s') h' ∧ ∀ x ∈ cf, Dis (look s' x.1) (look s' x.2) := fun {s1} e hg hm => by
    obtain ⟨s', h', q1, q2⟩ := runOps_ok r _ _ hm
    rw [look_put, e] at q1
    refine ⟨s', h', ?_, q2⟩
    simp only [List.foldlM_cons]
    unfold astep
    simp only [hg]
    exact q1
   unfold runOps at hr
   cases hg : co.g with
   | none => rw [hg] at hr; exact step rfl (by rw [hg]; rfl) hr
   | some db =>
     obtain ⟨d, b⟩ := db
     rw [hg] at hr
     simp only [onGd] at hr
     cases hp : look s d <;> rw [hp] at hr <;> simp only [onG] at hr
     case undef => exact skip rfl (by rw [hg]; simp only [gd, hp]) hr
     case bool p =>
      cases p <;> cases b <;> simp only [fork, ifB] at hr
      ·exact step (look_known hp) (by rw [hg]; simp only [gd, hp]; rfl) hr
      ·exact skip (look_known hp) (by rw [hg]; simp only [gd, hp]; rfl) hr
      ·exact skip (look_known hp) (by rw [hg]; simp only [gd, hp]; rfl) hr
      ·exact step (look_known hp) (by rw [hg]; simp only [gd, hp]; rfl) hr

section
variable {P : Program} {ti : Nat → TInf} {B : Base} {E : Env} {h : List AO} {w : World} {a : Act} {N : Nat} {D : List Deferred} {mu pures : List Nat}

theorem St.weaken {g g' : Nat → AV} (s : St B N D E g h a w) (hg : ∀ k, g' k = g k ∨ g' k = .any) : St B N D E g' h a w :=
 ⟨s.mem, fun k v hv => by
   rcases hg k with e | e
   ·rw [e]; exact s.slots k v hv
   ·rw [e]; simp only [rel], s.size, s.defers⟩

theorem eqS_look : ∀ {t s : SL}, eqS t s → ∀ k, look t k = look s k ∨ look t k = .any
 | [], _, _, k => .inr rfl
 | (j, v) :: t, s, h, k => by
   simp only [eqS] at h
   simp only [look_cons]
   split
   ·rename_i hb; rw [← Nat.eq_of_beq_eq_true hb]; exact .inl h.1.symm
   ·exact eqS_look h.2 k
theorem sbelow_look {k : Nat} : ∀ {t : SL}, sbelow k t = true → ∀ j, below k (look t j) = true
 | [], _, j => rfl
 | (i, v) :: t, h, j => by
   simp only [sbelow] at h
   split at h
   ·rename_i hv
    simp only [look_cons]
    split
    ·exact hv
    ·exact sbelow_look h j
   ·cases h
theorem sameS_look {ns : List (Option Nat)} {h h' : List AO} : ∀ {t s : SL}, sameS ns h h' t s → ∀ k, Same ns h h' (look t k) (look s k)
 | [], _, _, k => .any
 | (j, v) :: t, s, hs, k => by
   simp only [sameS] at hs
   simp only [look_cons]
   split
   ·rename_i hb; rw [← Nat.eq_of_beq_eq_true hb]; exact hs.1
   ·exact sameS_look hs.2 k
theorem sameH_get {k0 : Nat} {ns : List (Option Nat)} {h h' : List AO} : ∀ {j : Nat} {r : List (Option Nat)} {t : List AO}, sameH k0 ns h h' j r t → r.length = t.length ∧ ∀ {i : Nat} {b : AO}, t[i]? = some b → ∃ x, r[i]? = some x ∧ sameO k0 ns h h' (j + i) b x
 | _, [], [], _ => ⟨rfl, fun {i b} hb => by simp at hb⟩
 | j, x :: r, b0 :: t, hs => by
   simp only [sameH] at hs
   obtain ⟨h1, h2⟩ := hs
   obtain ⟨k1, k2⟩ := sameH_get h2
   refine ⟨by simp [k1], fun {i b} hb => ?_⟩
   cases i with
   | zero => simp at hb; subst hb; exact ⟨x, rfl, h1⟩
   | succ i =>
     obtain ⟨y, q1, q2⟩ := k2 (i := i) (by simpa using hb)
     exact ⟨y, by simpa using q1, by rw [show j + (i + 1) = j + 1 + i by omega]; exact q2⟩
 | _, [], _ :: _, hs => hs.elim
 | _, _ :: _, [], hs => hs.elim
theorem nodupN_ok : ∀ {ns : List (Option Nat)}, nodupN ns = true → ∀ {i j k : Nat}, ns[i]? = some (some k) → ns[j]? = some (some k) → i = j
 | [], _, i, j, k, hi, _ => by simp at hi
 | x :: r, hn, i, j, k, hi, hj => by
   have inr : ∀ {r : List (Option Nat)} {m : Nat}, r[m]? = some (some k) → inN r k = true := fun {r m} hm => by
    induction r generalizing m with
    | nil => simp at hm
    | cons y r ih =>
      cases m with
      | zero => simp at hm; subst hm; simp only [inN, Nat.beq_refl]
      | succ m =>
        have := ih (m := m) (by simpa using hm)
        cases y with
        | none => simpa only [inN] using this
        | some z => simp only [inN, this]; split <;> rfl
   cases x with
   | none =>
     simp only [nodupN] at hn
     cases i with
     | zero => simp at hi
     | succ i => cases j with
       | zero => simp at hj
       | succ j => have := nodupN_ok hn (i := i) (j := j) (by simpa using hi) (by simpa using hj); omega
   | some z =>
     simp only [nodupN] at hn
     split at hn
     ·cases hn
     ·rename_i hin
      cases i with
      | zero =>
        cases j with
        | zero => rfl
        | succ j =>
          simp at hi; subst hi
          have := inr (r := r) (m := j) (by simpa using hj)
          rw [this] at hin; cases hin
      | succ i =>
        cases j with
        | zero =>
          simp at hj; subst hj
          have := inr (r := r) (m := i) (by simpa using hi)
          rw [this] at hin; cases hin
        | succ j => have := nodupN_ok hn (i := i) (j := j) (by simpa using hi) (by simpa using hj); omega

def Env.again (E : Env) (ns : List (Option Nat)) (h' : List AO) : Env := { p := E.p, ι := fun j => if j < h'.length then (match nget ns j with | some i => E.ι i | none => some (0, 0)) else none, ep := fun j => match h'[j]? with | some b => b.ep | none => 0, ow := E.ow, wl := E.wl }

theorem Env.cut0_le (ns : List (Option Nat)) (h' : List AO) : (E.cut 0).le (E.again ns h') := ⟨fun _ _ hh => hh, fun i hi => absurd (by simp [Env.cut]) hi, fun _ h => h, fun _ _ => rfl⟩

theorem same_rel {ns : List (Option Nat)} {h h' : List AO} (hep : ∀ i a, h[i]? = some a → E.ep i = a.ep) {v u : AV} (hs : Same ns h h' v u) : ∀ x, rel E u x → rel (E.again ns h') v x := by
 induction hs with
 | refl hb => intro x r; exact rel.mono (Env.cut0_le ns h') _ _ (rel_cut _ _ hb r)
 | tell ht hb => intro x r; exact rel.mono (Env.cut0_le ns h') _ _ (rel_cut _ _ hb (ht E x r))
 | any => intro x _; simp only [rel]
 | nil => intro x r; simp only [rel, if_true] at r ⊢; exact ⟨r.1, trivial⟩
 | nilm => intro x r; simp only [rel, if_true] at r ⊢; exact ⟨r.1, trivial⟩
 | ms hn ha hb ea eb =>
   rename_i nil j i e e' o n sz a b
   intro x r
   rw [hget_eq] at ha hb
   simp only [rel] at r ⊢
   split
   ·rename_i hn; rw [if_pos hn] at r; exact r
   ·rename_i hnn; rw [if_neg hnn] at r
    obtain ⟨_, r2, ad, cap, r3, r4, r5⟩ := r
    have hlt : j < h'.length := (List.getElem?_eq_some_iff.1 hb).1
    simp only [Env.again, hb, if_pos hlt, hn]
    exact ⟨by omega, r2, ad, cap, r3, r4, fun _ => r5 (by rw [ea, hep i a ha])⟩
 | ptr hn ha hb ea eb =>
   rename_i j i e e' o a b
   intro x r
   rw [hget_eq] at ha hb
   simp only [rel] at r ⊢
   obtain ⟨_, r2, r3, r5⟩ := r
   have hlt : j < h'.length := (List.getElem?_eq_some_iff.1 hb).1
   simp only [Env.again, hb, if_pos hlt, hn]
   exact ⟨by omega, r2, r3, fun _ => r5 (by rw [ea, hep i a ha])⟩
 | aggr hl hs ih =>
   intro x r
   simp only [rel] at r ⊢
   obtain ⟨vs, r1, r2, r3⟩ := r
   obtain ⟨q1, q2⟩ := relL_iff.1 r2
   exact ⟨vs, r1, relL_iff.2 ⟨by omega, fun i k1 k2 => ih i k1 (by omega) _ (q2 i (by omega) k2)⟩, r3⟩
 | fnr hl hs ih =>
   intro x r
   simp only [rel] at r ⊢
   obtain ⟨vs, r1, r2⟩ := r
   obtain ⟨q1, q2⟩ := relL_iff.1 r2
   exact ⟨vs, r1, relL_iff.2 ⟨by omega, fun i k1 k2 => ih i k1 (by omega) _ (q2 i (by omega) k2)⟩⟩
 | bfr hl hs ih =>
   intro x r
   simp only [rel] at r ⊢
   obtain ⟨vs, r1, r2⟩ := r
   obtain ⟨q1, q2⟩ := relL_iff.1 r2
   exact ⟨vs, r1, relL_iff.2 ⟨by omega, fun i k1 k2 => ih i k1 (by omega) _ (q2 i (by omega) k2)⟩⟩

theorem same_relC {ns : List (Option Nat)} {h h' : List AO} (hep : ∀ i a, h[i]? = some a → E.ep i = a.ep) {c d : AV} (hs : SameC ns h h' c d) {vs : List Value} (r : relC E d vs) : relC (E.again ns h') c vs := by
 rcases hs with ⟨rfl, hb⟩ | ⟨l, m, rfl, rfl, hl⟩ | ⟨ht, hb⟩
 ·exact relC.mono (Env.cut0_le ns h') _ _ (relC_cut _ _ hb r)
 ·obtain ⟨k1, k2⟩ := hl.spec
  simp only [relC] at r ⊢
  obtain ⟨q1, q2⟩ := relL_iff.1 r.1
  exact ⟨relL_iff.2 ⟨by omega, fun i h1 h2 => same_rel hep (k2 i h1 (by omega)) _ (q2 i (by omega) h2)⟩, r.2⟩
 ·exact relC.mono (Env.cut0_le ns h') _ _ (relC_cut _ _ hb (ht E vs r))

theorem Mem.again (m : Mem B E h w) {k0 : Nat} {ns : List (Option Nat)} {h' : List AO} (hnd : nodupN ns = true) (hk : k0 ≤ h'.length) (hb0 : ∀ i, k0 ≤ i → B.E0.ι i = none) (hs : sameH k0 ns h h' 0 ns h') : Mem B (E.again ns h') h' w := by
 have hep : ∀ i a, h[i]? = some a → E.ep i = a.ep := fun i a hi => (m.obj i a hi).1
 obtain ⟨hlen, get0⟩ := sameH_get hs
 have get : ∀ {j : Nat} {b : AO}, h'[j]? = some b → (∃ i a, nget ns j = some i ∧ ns[j]? = some (some i) ∧ h[i]? = some a ∧ (k0 ≤ j ∨ (i = j ∧ a.ep = b.ep)) ∧ a.fz = b.fz ∧ SameC ns h h' b.c a.c) ∨ (nget ns j = none ∧ k0 ≤ j ∧ b.fz = false ∧ emptyC b.c = true) := fun {j b} hb => by
  obtain ⟨x, h1, h2⟩ := get0 hb
  rw [Nat.zero_add] at h2
  cases x with
  | none =>
    simp only [sameO] at h2
    exact .inr ⟨by rw [nget_eq, h1]; rfl, Nat.le_of_ble_eq_true h2.1, h2.2.1, h2.2.2⟩
  | some i =>
    simp only [sameO] at h2
    split at h2
    ·rename_i a ha
     rw [hget_eq] at ha
     exact .inl ⟨i, a, by rw [nget_eq, h1]; rfl, h1, ha, h2.1.imp Nat.le_of_ble_eq_true id, h2.2.1, h2.2.2⟩
    ·exact h2.elim
 refine ⟨⟨fun b cs hb => m.le.p b cs hb, fun i hi => ?_, m.le.ow, m.le.wl⟩, m.size, m.os, m.tape, m.output, m.keeps, m.sat, fun j b hj => ?_, fun i j oi oj b s t hi hj fi fj hb hb' hs ht => ?_, m.newP, fun i hi => ?_, fun i hi => hb0 i (by omega),
  m.xt.to rfl rfl (fun _ _ h => h) (fun _ _ h => h) (fun _ _ => rfl) fun k hk j b b' s' hj fj hb' hs' => ?_⟩
 ·have hlt : i < k0 := by
   rcases Nat.lt_or_ge i k0 with h | h
   ·exact h
   ·exact absurd (hb0 i h) hi
  obtain ⟨b, hb⟩ : ∃ b, h'[i]? = some b := ⟨h'[i]'(by omega), by simp⟩
  rcases get hb with ⟨i', a', h1, _, h2, h3, _⟩ | ⟨_, h1, _⟩
  ·obtain ⟨rfl, e2⟩ : i' = i ∧ a'.ep = b.ep := by
    rcases h3 with h3 | h3
    ·omega
    ·exact h3
   have e1 : (E.again ns h').ep i' = E.ep i' := by
    simp only [Env.again, hb]
    rw [← e2, hep i' a' h2]
   have e3 : (E.again ns h').ι i' = E.ι i' := by
    simp only [Env.again, if_pos (show i' < h'.length by omega), h1]
   rw [e1, e3]
   exact m.le.ι i' hi
  ·omega
 ·have hlt : j < h'.length := (List.getElem?_eq_some_iff.1 hj).1
  rcases get hj with ⟨i, a', h0, _, h1, _, h3, h4⟩ | ⟨h0, _, h1, h2⟩
  ·obtain ⟨_, b', s, q1, q2⟩ := m.obj i a' h1
   refine ⟨by simp [Env.again, hj], b', s, by simp only [Env.again, if_pos hlt, h0]; exact q1, ?_⟩
   rw [h3] at q2
   rcases q2 with ⟨g1, g2⟩ | ⟨g0, vs, g1, g2⟩ | ⟨g0, g1, cur, T, fr, vs, post, g2, g3, g4, g5, g6, g7, g8⟩
   ·exact .inl ⟨g1, same_relC hep h4 g2⟩
   ·exact .inr (.inl ⟨g0, vs, g1, same_relC hep h4 g2⟩)
   ·exact .inr (.inr ⟨g0, g1, cur, T, fr, vs, post, g2, g3, g4, g5, same_relC hep h4 g6, g7, g8⟩)
  ·refine ⟨by simp [Env.again, hj], 0, 0, by simp only [Env.again, if_pos hlt, h0], .inl ⟨rfl, ?_⟩⟩
   cases hc : b.c <;> rw [hc] at h2 <;> simp only [emptyC, Bool.false_eq_true] at h2
   ·split at h2
    ·simp only [relC, relL]; exact ⟨trivial, fun u hu => by cases hu⟩
    ·cases h2
   ·split at h2
    ·simp only [relC, List.map_nil]
    ·cases h2
   ·obtain rfl := Nat.eq_of_beq_eq_true h2
    simp only [relC, flatF, relFL]; exact ⟨trivial, fun u hu => by cases hu⟩
 ·have l1 := (List.getElem?_eq_some_iff.1 hi).1
  have l2 := (List.getElem?_eq_some_iff.1 hj).1
  rcases get hi with ⟨i', ai, n1, d1, i1, _, i3, _⟩ | ⟨n1, _⟩
  ·rcases get hj with ⟨j', aj, n2, d2, j1, _, j3, _⟩ | ⟨n2, _⟩
   ·simp only [Env.again, if_pos l1, n1] at hb
    simp only [Env.again, if_pos l2, n2] at hb'
    obtain rfl := m.inj i' j' ai aj b s t i1 j1 (i3.trans fi) (j3.trans fj) hb hb' hs ht
    exact nodupN_ok hnd d1 d2
   ·simp only [Env.again, if_pos l2, n2, Option.some.injEq, Prod.mk.injEq] at hb'
    omega
  ·simp only [Env.again, if_pos l1, n1, Option.some.injEq, Prod.mk.injEq] at hb
   omega
 ·have : ¬ i < h'.length := by omega
  simp only [Env.again, if_neg this]
  rw [List.getElem?_eq_none_iff.2 hi]
  simp
 ·have l1 := (List.getElem?_eq_some_iff.1 hj).1
  rcases get hj with ⟨i', ai, n1, d1, i1, _, i3, _⟩ | ⟨n1, _⟩
  ·simp only [Env.again, if_pos l1, n1] at hb'
   exact (m.xt.wl k hk).2.2.2 i' ai b' s' i1 (i3.trans fj) hb' hs'
  ·simp only [Env.again, if_pos l1, n1, Option.some.injEq, Prod.mk.injEq] at hb'
   omega

theorem eqO_get : ∀ {h' h : List AO}, eqO h' h → h'.length = h.length ∧ ∀ (i : Nat) (b : AO), h'[i]? = some b → ∃ a, h[i]? = some a ∧ a.ep = b.ep ∧ a.fz = b.fz ∧ RowEq a.c b.c
 | [], [], _ => ⟨rfl, fun i b hb => by simp at hb⟩
 | b0 :: t', a0 :: t, hq => by
   obtain ⟨h1, h2⟩ := hq
   obtain ⟨k1, k2⟩ := eqO_get h2
   refine ⟨by simp [k1], fun i b hb => ?_⟩
   cases i with
   | zero => simp at hb; subst hb; exact ⟨a0, rfl, h1⟩
   | succ i => exact k2 i b (by simpa using hb)
 | [], _ :: _, hq => hq.elim
 | _ :: _, [], hq => hq.elim
theorem Mem.recell (m : Mem B E h w) {h' : List AO} (hq : eqO h' h) : Mem B E h' w := by
 obtain ⟨hl, get⟩ := eqO_get hq
 refine ⟨m.le, m.size, m.os, m.tape, m.output, m.keeps, m.sat, fun i b hi => ?_, fun i j oi oj b s t hi hj fi fj => ?_, m.newP, fun i hi => m.fresh i (by omega), fun i hi => m.base i (by omega),
  m.xt.to rfl rfl (fun _ _ h => h) (fun _ _ h => h) (fun _ _ => rfl) fun k hk j oj b' s' hj fj hb' hs' => ?_⟩
 ·obtain ⟨a', h1, h2, h3, h4⟩ := get i b hi
  obtain ⟨q1, b', s, q2, q3⟩ := m.obj i a' h1
  have tr : ∀ vs, relC E a'.c vs → relC E b.c vs := fun vs hvs => by
   rcases h4 with h4 | ⟨h4, h5⟩ | h4
   ·rw [← h4]; exact hvs
   ·obtain ⟨_, k2, k3⟩ := relC_iff.1 hvs
    exact relC_iff.2 ⟨h4, by rw [← h5]; exact k2, k3⟩
   ·exact h4 E vs hvs
  refine ⟨q1.trans h2, b', s, q2, ?_⟩
  rw [h3] at q3
  rcases q3 with ⟨g1, g2⟩ | ⟨g0, vs, g1, g2⟩ | ⟨g0, g1, cur, T, fr, vs, post, g2, g3, g4, g5, g6, g7⟩
  ·exact .inl ⟨g1, tr _ g2⟩
  ·exact .inr (.inl ⟨g0, vs, g1, tr _ g2⟩)
  ·exact .inr (.inr ⟨g0, g1, cur, T, fr, vs, post, g2, g3, g4, g5, tr _ g6, g7⟩)
 ·obtain ⟨ai, i1, _, i3, _⟩ := get i oi hi
  obtain ⟨aj, j1, _, j3, _⟩ := get j oj hj
  exact m.inj i j ai aj b s t i1 j1 (i3.trans fi) (j3.trans fj)
 ·obtain ⟨aj, j1, _, j3, _⟩ := get j oj hj
  exact (m.xt.wl k hk).2.2.2 j aj b' s' j1 (j3.trans fj) hb' hs'

theorem Env.le0 {E E' : Env} (h1 : E'.p = E.p) (h2 : E'.ow = E.ow) (h3 : E'.wl = E.wl) : (E.cut 0).le E' := ⟨fun b cs h => by rw [h1]; exact h, fun i hi => absurd (by simp [Env.cut]) hi, fun b h => by rw [h2]; exact h, fun b _ => by rw [h3]; rfl⟩
theorem Env.le0_trans {A B C : Env} (h : (A.cut 0).le B) (k : (B.cut 0).le C) : (A.cut 0).le C := ⟨fun b cs hb => k.p b cs (h.p b cs hb), fun i hi => absurd (by simp [Env.cut]) hi, fun b hb => k.ow b (h.ow b hb), fun b hb => by
 have h1 := h.wl b hb
 have h2 := k.wl b (by show B.wl b ≠ 0; rw [h1]; exact hb)
 rw [h2]; exact h1⟩
theorem fits_ok {k0 : Nat} (hb0 : ∀ i, k0 ≤ i → B.E0.ι i = none) {ren : Bool} {s : SL} {t : SL × List AO} (hf : fits ren k0 s h t) (st : St B N D E (look s) h a w) : ∃ E', St B N D E' (look t.1) t.2 a w ∧ (E.cut 0).le E' := by
 unfold fits at hf
 split at hf
 ·obtain ⟨h1, h2⟩ := hf
  have st' := st.weaken (eqS_look h1)
  unfold eqH at h2
  split at h2
  ·exact ⟨E, ⟨st'.mem.recell h2, st'.slots, st'.size, st'.defers⟩, Env.le0 rfl rfl rfl⟩
  ·split at h2
   ·rename_i hk
    obtain ⟨q1, q2, q3⟩ := h2
    have hk' := Nat.le_of_ble_eq_true hk
    rw [htake_eq] at q1 q2
    have m := (st'.mem.drop (k := hlen t.2) q2 (fun i hi => hb0 i (by omega))).recell q1
    exact ⟨_, ⟨m, fun j v hv => rel_cut _ _ (sbelow_look q3 j) (st'.slots j v hv), st'.size, st'.defers⟩, Env.le0 rfl rfl rfl⟩
   ·exact h2.elim
 ·obtain ⟨ns, h0, h1, h2, h3⟩ := hf
  have hk : k0 ≤ t.2.length := by rw [← hlen_eq]; exact Nat.le_of_ble_eq_true h2
  exact ⟨_, ⟨st.mem.again h0 hk hb0 h3, fun j v hv => same_rel (fun i b hi => (st.mem.obj i b hi).1) (sameS_look h1 j) _ (st.slots j v hv), st.size, st.defers⟩, Env.le0 rfl rfl rfl⟩

theorem least (p : Nat → Prop) (h : ∃ n, p n) : ∃ n, p n ∧ ∀ m, p m → n ≤ m := by
 obtain ⟨n, hn⟩ := h
 induction n using Nat.strongRecOn with
 | _ n ih =>
   by_cases hm : ∃ m, m < n ∧ p m
   ·obtain ⟨m, h1, h2⟩ := hm; exact ih m h1 h2
   ·exact ⟨n, hn, fun m hp => by
     rcases Nat.lt_or_ge m n with h | h
     ·exact absurd ⟨m, h, hp⟩ hm
     ·exact h⟩

variable {n : Nat} {ro : Option Nat} {Γ : G}

theorem loop_peel {F : Fence} {P : Program} {n : Nat} {c : Code} {Q : Exit → Act → World → Prop} {a : Act} {w : World} (I : Act → World → Prop) (μ : Act → World → Nat) (h₀ : c.wpIn F n P (Exit.then I Q) a w)
  (round : ∀ a w, I a w → c.wpIn F n P (Exit.then (fun a' w' => I a' w' ∧ μ a' w' < μ a w) Q) a w) : (Code.loop c).wpIn F n P Q a w := by
 intro b k cs hro hb hr
 have key : ∀ j a w, μ a w = j → I a w →
   ∃ e a' w', Q e a' w' ∧ ArrivesIn (Machine.fenced P F) P (lone (b.atR a (.code c :: .inLoop c :: k)) cs w) b k cs e a' w' := by
  intro j
  induction j using Nat.strongRecOn with
  | _ j ih =>
    intro a w hn hI
    obtain ⟨e, a₁, w₁, hq, harr⟩ := round a w hI b (.inLoop c :: k) cs hro hb hr
    cases e with
    | normal =>
      obtain ⟨hI₁, hlt⟩ := hq
      obtain ⟨e₂, a₂, w₂, hq₂, harr₂⟩ := ih (μ a₁ w₁) (hn ▸ hlt) a₁ w₁ rfl hI₁
      exact ⟨e₂, a₂, w₂, hq₂, .of_steps (StepsIn.trans harr (.one (fenced_calm hb hr rfl) stepR_inLoop)) harr₂⟩
    | exit id => exact ⟨_, a₁, w₁, hq, .pass (x := .inLoop c) rfl (fun _ _ => .inl (by simp)) harr⟩
    | goto l => exact ⟨_, a₁, w₁, hq, .pass (x := .inLoop c) rfl (fun _ _ => .inl (by simp)) harr⟩
    | ret => exact ⟨_, a₁, w₁, hq, .pass (x := .inLoop c) rfl (fun _ _ => .inl (by simp)) harr⟩
    | panic ch => exact ⟨_, a₁, w₁, hq, .pass (x := .inLoop c) rfl (fun _ _ => .inl (by simp)) harr⟩
    | outgrown => exact ⟨_, a₁, w₁, hq, .pass (x := .inLoop c) rfl (fun _ _ => .inl (by simp)) harr⟩
 obtain ⟨e, a₁, w₁, hq, harr⟩ := h₀ b (.inLoop c :: k) cs hro hb hr
 have h1 : StepsIn (Machine.fenced P F) P (lone (b.atR a (.code (.loop c) :: k)) cs w) (lone (b.atR a (.code c :: .inLoop c :: k)) cs w) := .one (fenced_calm hb hr rfl) stepR_loop
 cases e with
 | normal =>
   obtain ⟨e₂, a₂, w₂, hq₂, harr₂⟩ := key _ a₁ w₁ rfl hq
   exact ⟨e₂, a₂, w₂, hq₂, .of_steps (StepsIn.trans h1 (StepsIn.trans harr (.one (fenced_calm hb hr rfl) stepR_inLoop))) harr₂⟩
 | exit id => exact ⟨_, a₁, w₁, hq, .of_steps h1 (.pass (x := .inLoop c) rfl (fun _ _ => .inl (by simp)) harr)⟩
 | goto l => exact ⟨_, a₁, w₁, hq, .of_steps h1 (.pass (x := .inLoop c) rfl (fun _ _ => .inl (by simp)) harr)⟩
 | ret => exact ⟨_, a₁, w₁, hq, .of_steps h1 (.pass (x := .inLoop c) rfl (fun _ _ => .inl (by simp)) harr)⟩
 | panic ch => exact ⟨_, a₁, w₁, hq, .of_steps h1 (.pass (x := .inLoop c) rfl (fun _ _ => .inl (by simp)) harr)⟩
 | outgrown => exact ⟨_, a₁, w₁, hq, .of_steps h1 (.pass (x := .inLoop c) rfl (fun _ _ => .inl (by simp)) harr)⟩
theorem loop_rule {c : Code} {Q : Exit → Act → World → Prop} {X : Type} (J : X → Act → World → Prop) (mu : X → Nat) (h0 : (∃ x, J x a w) ∨ c.wpIn (Fw ro) n P (Exit.then (fun a' w' => ∃ x, J x a' w') Q) a w)
  (round : ∀ x a w, J x a w → c.wpIn (Fw ro) n P (Exit.then (fun a' w' => ∃ x', J x' a' w' ∧ mu x' < mu x) Q) a w) : (Code.loop c).wpIn (Fw ro) n P Q a w := by
 classical
 let p : Act → World → Nat → Prop := fun a w k => ∃ x, J x a w ∧ mu x = k
 let M : Act → World → Nat := fun a w => if hh : ∃ k, p a w k then Classical.choose (least _ hh) else 0
 have hM : ∀ a w x, J x a w → ∃ x', J x' a w ∧ mu x' = M a w ∧ M a w ≤ mu x := fun a w x hx => by
  have hh : ∃ k, p a w k := ⟨mu x, x, hx, rfl⟩
  have hs := Classical.choose_spec (least _ hh)
  have e : M a w = Classical.choose (least _ hh) := dif_pos hh
  obtain ⟨x', h1, h2⟩ := hs.1
  exact ⟨x', h1, by rw [e]; exact h2, by rw [e]; exact hs.2 _ ⟨x, hx, rfl⟩⟩
 have round' : ∀ a w, (∃ x, J x a w) → c.wpIn (Fw ro) n P (Exit.then (fun a' w' => (∃ x, J x a' w') ∧ M a' w' < M a w) Q) a w := fun a w hI => ?_
 ·rcases h0 with h0 | h0
  ·exact wpIn_loop (fun a w => ∃ x, J x a w) M h0 round'
  ·exact loop_peel (fun a w => ∃ x, J x a w) M h0 round'
 obtain ⟨x, hx⟩ := hI
 obtain ⟨x1, h1, h2, _⟩ := hM a w x hx
 refine wpIn_mono (round x1 a w h1) fun e a' w' hq => ?_
 cases e with
 | normal =>
   obtain ⟨x', k1, k2⟩ := hq
   obtain ⟨_, _, _, k3⟩ := hM a' w' x' k1
   exact ⟨⟨x', k1⟩, by omega⟩
 | _ => exact hq

theorem run_ok0 (hBX : B.X = noX) (hti : TIok P ti) (hsp : SpOK P Γ.sp) (hm : P.follows .mixedOrders = true) : ∀ (c : Code) (Q : Exit → Act → World → Prop) (k : KT) (X : List (Nat × KT)) (r : KT) (s : SL) (h : List AO) (E : Env) (a : Act) (w : World),
  noR (comp ti mu pures N c) = true → run Γ (comp ti mu pures N c) k X r s h → St B N D E (look s) h a w → (∀ s h E a w, k s h → St B N D E (look s) h a w → Q .normal a w) → (∀ id s h E a w, xfind X id s h → St B N D E (look s) h a w → Q (.exit id) a w) →
  (∀ s h E a w, r s h → St B N D E (look s) h a w → Q .ret a w) → c.wpIn (Fw ro) n P Q a w
 | .skip, Q, k, X, r, s, h, E, a, w, _, hr, st, hk, _, _ => by
   simp only [comp, run] at hr
   exact wpIn_skip (hk _ _ _ _ _ hr st)
 | .ret, Q, k, X, r, s, h, E, a, w, _, hr, st, _, _, hrr => by
   simp only [comp, run] at hr
   exact wpIn_ret (hrr _ _ _ _ _ hr st)
 | .exit id, Q, k, X, r, s, h, E, a, w, _, hr, st, _, hX, _ => by
   simp only [comp, run] at hr
   exact wpIn_exit (hX _ _ _ _ _ _ hr st)
 | .region id ops draw, Q, k, X, r, s, h, E, a, w, hn, hr, st, hk, _, _ => by
   simp only [comp] at hr hn
   split at hr
   ·rename_i l hl
    have hlen := (compOps_get hl).1
    have main : ∀ {cf : List (Nat × Nat)}, (draw = true → orderOK ops l cf = true) → runOps Γ.sp Γ.keep cf l k s h → (Code.region id ops draw).wpIn (Fw ro) n P Q a w := fun {cf} hok hr => by
     obtain ⟨s', h', q1, q2, q3⟩ := runOps_ok l s h hr
     refine region_ok hti hsp hm hl (fun _ _ => .inl hBX) hok st (gF := look s') (hF := h') ?_ q3 fun E' a' w' st' => hk _ _ E' a' w' q2 (st'.weaken (look_trim _ _))
     have := range_afold (sp := Γ.sp) (cs := l) ops.size 0 (look s, h) (by rw [hlen]; simp)
     rw [List.range_eq_range', this]
     simpa using q1
    cases draw with
    | false =>
      simp only [run] at hr
      exact main (fun e => by cases e) hr
    | true =>
      simp only at hr
      split at hr
      ·rename_i hok
       simp only [run] at hr
       exact main (fun _ => hok) hr
      ·rename_i hno
       unfold altC at hr hn
       split at hr
       ·rename_i halt
        rw [hl] at hn
        simp only at hn
        rw [if_neg hno, if_pos halt] at hn
        simp only [noR] at hn
        cases hn
       ·simp only [run] at hr
   ·simp only [run] at hr
 | .seq x y, Q, k, X, r, s, h, E, a, w, hn, hr, st, hk, hX, hrr => by
   simp only [comp, run] at hr
   simp only [comp, noR] at hn
   split at hn
   ·rename_i hx
    refine wpIn_seq (run_ok0 hBX hti hsp hm x _ _ X r s h E a w hx hr st (fun s h E a w hh st => ?_) (fun id s h E a w hh st => hX id s h E a w hh st) (fun s h E a w hh st => hrr s h E a w hh st))
    exact run_ok0 hBX hti hsp hm y Q k X r s h E a w hn hh st hk hX hrr
   ·cases hn
 | .cond x c d, Q, k, X, r, s, h, E, a, w, hn, hr, st, hk, hX, hrr => by
   simp only [comp, run] at hr
   simp only [comp, noR] at hn
   split at hn
   ·rename_i hnc
    have hx := rel_x (st.all hBX) x
    cases hp : xv (look s) (xof x) <;> rw [hp] at hr hx <;> simp only [onB] at hr
    rename_i p
    simp only [rel] at hx
    refine wpIn_cond hx ?_
    cases p
    ·exact run_ok0 hBX hti hsp hm d Q k X r s h E a w hn hr st hk hX hrr
    ·exact run_ok0 hBX hti hsp hm c Q k X r s h E a w hnc hr st hk hX hrr
   ·cases hn
 | .block id c, Q, k, X, r, s, h, E, a, w, hn, hr, st, hk, hX, hrr => by
   simp only [comp, run] at hr
   simp only [comp, noR] at hn
   refine wpIn_block (run_ok0 hBX hti hsp hm c _ k ((id, k) :: X) r s h E a w hn hr st (fun s h E a w hh st => hk s h E a w hh st) (fun id' s h E a w hh st => ?_) (fun s h E a w hh st => hrr s h E a w hh st))
   simp only [xfind] at hh
   simp only [Exit.inBlock]
   cases hb : Nat.beq id id' <;> rw [hb] at hh <;> simp only [xfB] at hh
   ·rw [if_neg (fun e => by subst e; simp at hb)]
    exact hX id' s h E a w hh st
   ·rw [if_pos (Nat.eq_of_beq_eq_true hb).symm]; exact hk s h E a w hh st
 | .loop c, Q, k, X, r, s, h, E, a, w, hn, hr, st, hk, hX, hrr => by simp only [comp, noR] at hn; cases hn
 | .rangeFunc _ _ _ _, Q, k, X, r, s, h, E, a, w, hn, hr, st, _, _, _ => by simp only [comp, noR] at hn; cases hn
 | .scope _, Q, k, X, r, s, h, E, a, w, _, hr, st, _, _, _ => by simp only [comp, run] at hr
 | .label _, Q, k, X, r, s, h, E, a, w, _, hr, st, _, _, _ => by simp only [comp, run] at hr
 | .goto _, Q, k, X, r, s, h, E, a, w, _, hr, st, _, _, _ => by simp only [comp, run] at hr
 | .refuse _, Q, k, X, r, s, h, E, a, w, _, hr, st, _, _, _ => by simp only [comp, run] at hr

end
open Go.RowKit
section
variable {P : Program} {ti : Nat → TInf} {B : Base} {E : Env} {h : List AO} {w : World} {a : Act} {N : Nat} {D : List Deferred} {mu pures : List Nat} {Γ : G} {n : Nat}

def FdIter (P : Program) (F : Nat) : Prop := ∀ (l Bs b off len cap : Nat), len * 8 ≤ 140737488351232 → ∀ (zs : Nat → Int) (sa : Nat → Option Addr) (sn sc : Nat → Nat) (rs : Nat → Bool) (J Jx : Nat → World → Prop),
  (∀ i W W', J i W → W.grownBy W' none → J i W') →
  (∀ i W, J i W → W.cell? ⟨Bs, 0, none⟩ = some (.slice (some ⟨b, off, none⟩) len cap) ∧ ∀ j, j < len → W.cell? ⟨b, off + j * 3, none⟩ = some (.int .i64 (zs j)) ∧ W.cell? ⟨b, off + j * 3 + 1, none⟩ = some (.slice (sa j) (sn j) (sc j)) ∧ W.cell? ⟨b, off + j * 3 + 2, none⟩ = some (.bool (rs j))) →
  (∀ i W, J i W → i < len → YieldAt (Fw none) 0 P l #[.agg #[.int .i64 (zs i), .slice (sa i) (sn i) (sc i), .bool (rs i)]] W fun e W' =>
    (e = .returned (.bool true) ∧ J (i + 1) W') ∨ (e = .returned (.bool false) ∧ Jx (i + 1) W')) →
  ∀ W, J 0 W → CallsIn (Fw none) 0 P F #[.func (.yield l) #[] #[], .pointer (some ⟨Bs, 0, none⟩)] W fun e W' => (∃ v, e = .returned v) ∧ (J len W' ∨ ∃ i, i ≤ len ∧ Jx i W')

def mark (d : Nat) : Deferred := { target := .collected d, args := #[] }
structure Ext (B : Base) (D : List Deferred) (B' : Base) (D' : List Deferred) : Prop where
 mem : ∀ E h w, Mem B' E h w → Mem B E h w
 e0 : B'.E0 = B.E0
 x : B'.X = B.X
 d : ∃ ds : List Nat, D' = ds.map mark ++ D ∧ ds.Nodup ∧ ∀ d ∈ ds, B.w0.heap.size ≤ d ∧ d < B'.w0.heap.size ∧ ¬ B'.M d ∧ B'.w0.heap[d]? = some (.deferred (some []))
theorem Ext.refl : Ext B D B D := ⟨fun _ _ _ h => h, rfl, rfl, [], rfl, List.nodup_nil, fun d h => by cases h⟩

def Sx (B : Base) (N : Nat) (D : List Deferred) (s : SL) (h : List AO) (a : Act) (w : World) : Prop := ∃ B' D' E, Ext B D B' D' ∧ St B' N D' E (look s) h a w
theorem Sx.fits {k0 : Nat} (hb0 : ∀ i, k0 ≤ i → B.E0.ι i = none) {ren : Bool} {s : SL} {t : SL × List AO} (st : Sx B N D s h a w) (hf : fits ren k0 s h t) : Sx B N D t.1 t.2 a w := by
 obtain ⟨B', D', E, hx, st⟩ := st
 obtain ⟨E', st', _⟩ := fits_ok (by rw [hx.e0]; exact hb0) hf st
 exact ⟨B', D', E', hx, st'⟩

theorem Mem.turn (m : Mem B E h w) {w' : World} {row : Option Nat} (hg : w.grownBy w' row) (hr : ∀ r, row = some r → B.w0.heap.size ≤ r ∧ ∃ o : Obj, w.heap[r]? = some o ∧ o.isCells = false) : Mem B E h w' := by
 have same : ∀ {b : Nat} {cs : Array Value} {T : TypeId} {fr : Nat × Nat}, w.heap[b]? = some (.cells cs T fr) → w'.heap[b]? = some (.cells cs T fr) := fun {b cs T fr} hb =>
  (hg.block b (Array.getElem?_eq_some_iff.1 hb).1 (fun e => by
    obtain ⟨_, o, ho, hc⟩ := hr b e.symm
    rw [hb] at ho; cases ho; cases hc)).trans hb
 refine ⟨m.le, Nat.le_trans m.size hg.size, hg.os.trans m.os, hg.tape.trans m.tape, hg.output.trans m.output, fun b hb hM => ?_, fun b cs hb => ?_, fun i ob hi => ?_, m.inj, m.newP, m.fresh, m.base,
  m.xt.to rfl rfl (fun _ _ h => h) (fun _ _ h => h) (fun b hb => ?_) fun b hb => (m.xt.wl b hb).2.2.2⟩
 ·refine (hg.block b (by have := m.size; omega) (fun e => ?_)).trans (m.keeps b hb hM)
  have := (hr b e.symm).1; omega
 ·obtain ⟨T, fr, h1⟩ := m.sat b cs hb
  exact ⟨T, fr, same h1⟩
 ·obtain ⟨h1, b, s, h2, h3⟩ := m.obj i ob hi
  refine ⟨h1, b, s, h2, ?_⟩
  rcases h3 with h3 | h3 | ⟨hf, hs, cur, T, fr, vs, post, g1, g2⟩
  ·exact .inl h3
  ·exact .inr (.inl h3)
  ·exact .inr (.inr ⟨hf, hs, cur, T, fr, vs, post, same g1, g2⟩)
 ·rcases hb with hb | hb
  ·obtain ⟨_, cs, T, fr, _, h1, _⟩ := m.xt.ow b hb
   rw [same h1, h1]
  ·obtain ⟨_, ⟨cs, T, fr, h1, _⟩, _⟩ := m.xt.wl b hb
   rw [same h1, h1]

theorem Mem.guard (m : Mem B E h w) {d : Nat} {o : Obj} (hd : B.w0.heap.size ≤ d) (ho : w.heap[d]? = some o) (hc : o.isCells = false) :
  Mem ⟨w, B.E0, fun b => b ≠ d ∧ (B.w0.heap.size ≤ b ∨ B.M b), B.X⟩ E h w ∧ ∀ E' h' w', Mem ⟨w, B.E0, fun b => b ≠ d ∧ (B.w0.heap.size ≤ b ∨ B.M b), B.X⟩ E' h' w' → Mem B E' h' w' := by
 constructor
 ·refine ⟨m.le, Nat.le_refl _, rfl, rfl, rfl, fun _ _ _ => rfl, m.sat, fun i ob hi => ?_, m.inj, fun b hb => ?_, m.fresh, m.base, ⟨fun b hb => ?_, fun b hb => ?_⟩⟩
  ·obtain ⟨h1, b, s, h2, h3⟩ := m.obj i ob hi
   refine ⟨h1, b, s, h2, ?_⟩
   rcases h3 with h3 | h3 | ⟨hf, hs, cur, T, fr, vs, post, g1, g2, g3, g4, g5, g6, g7⟩
   ·exact .inl h3
   ·exact .inr (.inl h3)
   ·exact .inr (.inr ⟨hf, hs, cur, T, fr, vs, post, g1, g2, g3, g4, g5, g6, .inr ⟨fun e => (by subst e; rw [g1] at ho; cases ho; cases hc), g7⟩⟩)
  ·rcases m.newP b hb with h1 | h1
   ·exact .inl h1
   ·refine .inr (.inr ⟨fun e => ?_, h1⟩)
    cases hp : E.p b with
    | none => exact hb hp
    | some cs =>
      obtain ⟨T, fr, h2⟩ := m.sat b cs hp
      subst e; rw [h2] at ho; cases ho; cases hc
  ·obtain ⟨h1, cs, T, fr, h2, h3, h4⟩ := m.xt.ow b hb
   exact ⟨h1.imp id fun h1 => .inr ⟨fun e => (by subst e; rw [h3] at ho; cases ho; cases hc), h1⟩, cs, T, fr, h2, h3, h4⟩
  ·obtain ⟨h1, ⟨cs, T, fr, h2, h3⟩, h4⟩ := m.xt.wl b hb
   exact ⟨.inr ⟨fun e => (by subst e; rw [h2] at ho; cases ho; cases hc), h1⟩, ⟨cs, T, fr, h2, h3⟩, h4⟩
 ·intro E' h' w' m'
  refine ⟨m'.le, Nat.le_trans m.size m'.size, m'.os.trans m.os, m'.tape.trans m.tape, m'.output.trans m.output, fun b hb hM => ?_, m'.sat, fun i ob hi => ?_, m'.inj, fun b hb => ?_, m'.fresh, m'.base, ⟨fun b hb => ?_, fun b hb => ?_⟩⟩
  ·refine (m'.keeps b (by have := m.size; show b < w.heap.size; omega) (fun hh => ?_)).trans (m.keeps b hb hM)
   rcases hh.2 with h1 | h1
   ·omega
   ·exact hM h1
  ·obtain ⟨h1, b, s, h2, h3⟩ := m'.obj i ob hi
   refine ⟨h1, b, s, h2, ?_⟩
   rcases h3 with h3 | h3 | ⟨hf, hs, cur, T, fr, vs, post, g1, g2, g3, g4, g5, g6, g7⟩
   ·exact .inl h3
   ·exact .inr (.inl h3)
   ·refine .inr (.inr ⟨hf, hs, cur, T, fr, vs, post, g1, g2, g3, g4, g5, g6, ?_⟩)
    rcases g7 with g7 | g7
    ·left; have := m.size; have : w.heap.size ≤ b := g7; omega
    ·exact g7.2
  ·rcases m'.newP b hb with h1 | h1 | h1
   ·exact .inl h1
   ·right; left; have := m.size; have : w.heap.size ≤ b := h1; omega
   ·exact .inr h1.2
  ·obtain ⟨h1, h2⟩ := m'.xt.ow b hb
   refine ⟨h1.imp id fun h1 => ?_, h2⟩
   rcases h1 with h1 | h1
   ·left; have := m.size; have : w.heap.size ≤ b := h1; omega
   ·exact h1.2
  ·obtain ⟨h1, h2⟩ := m'.xt.wl b hb
   refine ⟨?_, h2⟩
   rcases h1 with h1 | h1
   ·left; have := m.size; have : w.heap.size ≤ b := h1; omega
   ·exact h1.2

theorem Mem.keepsFrom {w0 : World} {E0 : Env} {h0 : List AO} (m0 : Mem B E0 h0 w0) (m : Mem ⟨w0, E0, Mof E0 h0, noX⟩ E h w) (b : Nat) : KeepsFrom b w0 w :=
 ⟨m.size, fun k o _ hk ho => by
   have hlt : k < w0.heap.size := (Array.getElem?_eq_some_iff.1 hk).1
   refine (m.keeps k hlt (fun hh => ?_)).trans hk
   rcases hh with ⟨i, ob, s, h1, h2, h3, h4⟩ | hh
   case inr =>
    obtain ⟨_, ⟨cs, T, fr, g1, _⟩, _⟩ := m0.xt.wl k hh
    rw [g1] at hk; cases hk; cases ho
   obtain ⟨_, b', s', k1, k2⟩ := m0.obj i ob h1
   rw [h3] at k1; cases k1
   rcases k2 with ⟨k2, _⟩ | ⟨k2, _⟩ | ⟨_, _, cur, T, fr, vs, post, g1, _⟩
   ·omega
   ·rw [h2] at k2; cases k2
   ·rw [g1] at hk; cases hk; cases ho⟩
theorem Mem.longer {w0 : World} {E0 : Env} {h0 : List AO} (m0 : Mem B E0 h0 w0) (m : Mem ⟨w0, E0, Mof E0 h0, noX⟩ E h w) : h0.length ≤ h.length := by
 rcases Nat.lt_or_ge h.length h0.length with hlt | hge
 ·exfalso
  obtain ⟨_, b, s, h2, _⟩ := m0.obj h.length h0[h.length] (List.getElem?_eq_getElem hlt)
  have h3 : E.ι h.length ≠ none := by
   rcases m.le.ι h.length (by rw [h2]; simp) with ⟨_, e⟩ | ⟨_, e⟩
   ·rw [e]; show E0.ι _ ≠ none; rw [h2]; simp
   ·exact e
  exact h3 (m.fresh h.length (Nat.le_refl _)).1
 ·exact hge

theorem fd_elems {E : Env} : ∀ {l : List AV} {vs : List Value}, fdShape l = true → relL E l vs → ∀ j, j * 3 + 3 ≤ l.length → ∃ z a n c r, vs[j * 3]? = some (intv z) ∧ vs[j * 3 + 1]? = some (.slice a n c) ∧ vs[j * 3 + 2]? = some (.bool r) ∧ rel E (elT l j) (.agg #[intv z, .slice a n c, .bool r]) ∧ (belowL 0 l = true → below 0 (elT l j) = true)
 | [], vs, _, _, j, hj => by simp at hj
 | [_], vs, hs, _, j, hj => by simp at hj
 | [_, _], vs, hs, _, j, hj => by simp at hj
 | x :: y :: u :: l, vs, hs, hr, j, hj => by
   unfold fdShape at hs
   split at hs
   ·rename_i heq; cases heq
   rotate_left
   ·cases hs
   rename_i z nl sn sz c fl b l' heq
   cases heq
   simp only [relL] at hr
   obtain ⟨v1, us, rfl, h1, v2, us2, rfl, h2, v3, us3, rfl, h3, hl⟩ := hr
   have hv2 : ∃ a n cc, v2 = .slice a n cc := by
    simp only [rel] at h2
    split at h2
    ·exact ⟨_, _, _, h2.1⟩
    ·obtain ⟨a, cap, vs, e, _⟩ := h2; exact ⟨_, _, _, e⟩
   obtain ⟨a, n, cc, rfl⟩ := hv2
   simp only [rel] at h1 h3
   subst h1 h3
   cases j with
   | zero =>
     have e0 : elT (.int z :: .sl nl sn sz c fl :: .bool b :: l) 0 = .agg [.int z, .sl nl sn sz c fl, .bool b] := by simp only [elT, Nat.zero_mul, ldrop, ltake]
     refine ⟨z, a, n, cc, b, rfl, rfl, rfl, ?_, fun hb => ?_⟩
     ·rw [e0]
      simp only [rel, relL]
      refine ⟨_, rfl, ⟨_, _, rfl, rfl, _, _, rfl, ?_, _, _, rfl, rfl, rfl⟩, ?_⟩
      ·simp only [rel] at h2; exact h2
      ·intro u hu
       simp at hu
       rcases hu with rfl | rfl | rfl <;> rfl
     ·rw [e0]
      simp only [belowL] at hb
      simp only [below, belowL]
      split at hb
      ·split at hb
       ·rename_i h1 h2; simp only [below] at h2; rw [h2]
       ·cases hb
      ·cases hb
   | succ j =>
     obtain ⟨z', a', n', c', r', q1, q2, q3, q4, q5⟩ := fd_elems (l := l) hs hl j (by simp at hj; omega)
     refine ⟨z', a', n', c', r', ?_, ?_, ?_, ?_, ?_⟩
     ·rw [show (j + 1) * 3 = j * 3 + 1 + 1 + 1 by omega]; simpa using q1
     ·rw [show (j + 1) * 3 + 1 = j * 3 + 1 + 1 + 1 + 1 by omega]; simpa using q2
     ·rw [show (j + 1) * 3 + 2 = j * 3 + 2 + 1 + 1 + 1 by omega]; simpa using q3
     ·have : elT (.int z :: .sl nl sn sz c fl :: .bool b :: l) (j + 1) = elT l j := by
       unfold elT
       rw [ldrop_eq, ldrop_eq, show (j + 1) * 3 = j * 3 + 1 + 1 + 1 by omega]
       rfl
      rw [this]; exact q4
     ·have : elT (.int z :: .sl nl sn sz c fl :: .bool b :: l) (j + 1) = elT l j := by
       unfold elT
       rw [ldrop_eq, ldrop_eq, show (j + 1) * 3 = j * 3 + 1 + 1 + 1 by omega]
       rfl
      rw [this]
      intro hb
      refine q5 ?_
      simp only [belowL] at hb
      split at hb
      ·split at hb
       ·split at hb
        ·exact hb
        ·cases hb
       ·cases hb
      ·cases hb
theorem allN_get : ∀ {n : Nat} {f : Nat → Prop}, allN n f → ∀ j, j < n → f j
 | 0, _, _, j, h => by omega
 | n + 1, f, hf, j, h => by
   by_cases e : j = n
   ·rw [e]; exact hf.2
   ·exact allN_get hf.1 j (by omega)

theorem range_ok (hBX : B.X = noX) (hti : TIok P ti) (hsp : SpOK P Γ.sp) (hm : P.follows .mixedOrders = true) (hb0 : ∀ i, Γ.k0 ≤ i → B.E0.ι i = none) (htn : Γ.tn ≤ N) (hrf : ∀ F, rfind Γ.rf F = true → FdIter P F ∧ ∀ args w, (callFunc F args).run P w = .ok (.enter F args) w)
  {f : Operand} {ps : Array Tmp} {x y : Code} {Q : Exit → Act → World → Prop} {k r : KT} {s : SL}
  (hr : onR Γ (match noR (comp ti mu pures N x) with | true => noR (comp ti mu pures N y) | false => false) (xv (look s) (xof f)) ps.toList (fun k r => run Γ (comp ti mu pures N x) k [] r) (fun k r => run Γ (comp ti mu pures N y) k [] r) k r s h)
  (st : Sx B N D s h a w) (hk : ∀ s h a w, k s h → Sx B N D s h a w → Q .normal a w) (hrr : ∀ s h a w, r s h → Sx B N D s h a w → Q .ret a w) : (Code.rangeFunc f ps x y).wpIn (Fw none) n P Q a w := by
 obtain ⟨B', D', E, hx, st⟩ := st
 have hBX' : B'.X = noX := hx.x.trans hBX
 unfold onR at hr
 split at hr
 ·rename_i F i e o p hok hv hps
  have hnr : noR (comp ti mu pures N x) = true ∧ noR (comp ti mu pures N y) = true := by
   split at hok
   ·rename_i h1; exact ⟨h1, hok⟩
   ·cases hok
  split at hr
  ·rename_i hrfF
   split at hr
   ·rename_i ob hob
    split at hr
    ·rename_i hep
     split at hr
     ·rename_i ho0
      split at hr
      ·rename_i nn sz l fl hc
       split at hr
       ·rename_i hsz
        split at hr
        ·rename_i hn
         split at hr
         ·rename_i hsh
          obtain ⟨hp, hpos, hbl, hreach, hr⟩ := hr
          obtain rfl := Nat.eq_of_beq_eq_true ho0
          obtain rfl := Nat.eq_of_beq_eq_true hsz
          have hn := Nat.eq_of_beq_eq_true hn
          have he := Nat.eq_of_beq_eq_true hep
          have hpos : 0 < nn := by simpa using hpos
          have hpN : p < N := by have : p < Γ.tn := by simpa using hp
                                 omega
          have hob' : h[i]? = some ob := by rw [← hget_eq]; exact hob
          -- the value that is ranged over
          have hfv := rel_x (st.all hBX') f
          rw [hv] at hfv
          simp only [rel, relL] at hfv
          obtain ⟨cvs, hfv, cv, cus, hcv, hptr, hcus⟩ := hfv
          subst hcus
          obtain ⟨_, _, _, hptr⟩ := hptr
          obtain ⟨Bs, sB, hι, hcvp⟩ := hptr (by rw [← he]; exact (st.mem.obj i ob hob').1.symm)
          subst hcvp
          have hcv' : cvs = #[.pointer (some ⟨Bs, 0, none⟩)] := by apply Array.ext'; rw [hcv]
          subst hcv'
          -- it is frozen
          obtain ⟨E1, le1, m1, eι, eep⟩ := st.mem.freeze hob'
          have st1 : St B' N D' E1 (look s) (hset h i { ob with fz := true }) a w := ⟨by rw [hset_eq]; exact m1, fun k v hv => rel.mono le1 _ _ (st.slots k v hv), st.size, st.defers⟩
          have hlt : i < h.length := (List.getElem?_eq_some_iff.1 hob').1
          obtain ⟨_, b1, s1, k1, k2⟩ := m1.obj i { ob with fz := true } (by rw [List.getElem?_set_self hlt])
          rw [eι, hι] at k1
          cases k1
          have hrow : ∃ b off cap vs', E1.at_ Bs 0 [.slice (some ⟨b, off, none⟩) nn cap] ∧ E1.at_ b off vs' ∧ vs'.length = nn * 3 ∧ relL E1 l vs' := by
           rcases k2 with ⟨_, k2⟩ | ⟨_, vs, k2, k3⟩ | ⟨k2, _⟩
           ·rw [hc] at k2; simp only [relC, relL] at k2; obtain ⟨⟨_, _, hh, _⟩, _⟩ := k2; cases hh
           ·rw [hc] at k3
            simp only [relC, relL] at k3
            obtain ⟨⟨u, us, rfl, hu, rfl⟩, _⟩ := k3
            simp only [rel, Bool.false_eq_true, if_false] at hu
            obtain ⟨ad, cap, vs', rfl, _, _, h4, h5, h6, _⟩ := hu
            rcases h4 with h4 | ⟨b, off, rfl, h4⟩
            ·rw [h4] at h5; simp at h5; omega
            ·exact ⟨b, off, cap, vs', k2, h4, h5, h6⟩
           ·cases k2
          obtain ⟨b, off, cap, vs', hat1, hat2, hvl, hvr⟩ := hrow
          have hll : l.length = nn * 3 := by rw [← relL_length hvr, hvl]
          have hel := fun j (hj : j < nn) => fd_elems hsh hvr j (by omega)
          have hch : ∃ el : Nat → Int × Option Addr × Nat × Nat × Bool, ∀ j, j < nn → vs'[j * 3]? = some (intv (el j).1) ∧ vs'[j * 3 + 1]? = some (.slice (el j).2.1 (el j).2.2.1 (el j).2.2.2.1) ∧ vs'[j * 3 + 2]? = some (.bool (el j).2.2.2.2) ∧
            rel E1 (elT l j) (.agg #[intv (el j).1, .slice (el j).2.1 (el j).2.2.1 (el j).2.2.2.1, .bool (el j).2.2.2.2]) := by
           have := fun j : Nat => (show ∃ t : Int × Option Addr × Nat × Nat × Bool, j < nn → vs'[j * 3]? = some (intv t.1) ∧ vs'[j * 3 + 1]? = some (.slice t.2.1 t.2.2.1 t.2.2.2.1) ∧ vs'[j * 3 + 2]? = some (.bool t.2.2.2.2) ∧
            rel E1 (elT l j) (.agg #[intv t.1, .slice t.2.1 t.2.2.1 t.2.2.2.1, .bool t.2.2.2.2]) from by
             by_cases hj : j < nn
             ·obtain ⟨z, a, n, c, r, g1, g2, g3, g4, _⟩ := hel j hj
              have q := And.intro g1 (And.intro g2 (And.intro g3 g4))
              exact ⟨(z, a, n, c, r), fun _ => q⟩
             ·exact ⟨(0, none, 0, 0, false), fun h => absurd h hj⟩)
           exact ⟨fun j => Classical.choose (this j), fun j => Classical.choose_spec (this j)⟩
          obtain ⟨el, hel⟩ := hch
          obtain ⟨r1, r2, r3⟩ := hr
          have hb0' : ∀ i, Γ.k0 ≤ i → B'.E0.ι i = none := by rw [hx.e0]; exact hb0
          obtain ⟨hit, hent⟩ := hrf F hrfF
          have hlb : ∀ j, j < nn → below 0 (elT l j) = true := fun j hj => by
           obtain ⟨_, _, _, _, _, _, _, _, _, q⟩ := fd_elems hsh hvr j (by omega)
           exact q hbl
          let v : Nat → Value := fun j => .agg #[intv (el j).1, .slice (el j).2.1 (el j).2.2.1 (el j).2.2.2.1, .bool (el j).2.2.2.2]
          let I : Nat → World → Prop := fun j W => Γ.rinv.pre j ∧ ∃ E', St B' N D' E' (look (Γ.rinv.inv j).1) (Γ.rinv.inv j).2 a W ∧ (E1.cut 0).le E'
          let Ix : World → Prop := fun W => ∃ s' h' E', r s' h' ∧ St B' N D' E' (look s') h' a W
          have hBw : B'.w0.heap.size ≤ w.heap.size := st.mem.size
          have ext : ∀ {Dd : Nat} {W : World} {E' : Env} {h' : List AO}, w.heap.size ≤ Dd → Mem B' E' h' W → W.heap[Dd]? = some (.deferred (some [])) →
            (∀ E2 h2 w2, Mem ⟨W, B'.E0, fun b => b ≠ Dd ∧ (B'.w0.heap.size ≤ b ∨ B'.M b), B'.X⟩ E2 h2 w2 → Mem B' E2 h2 w2) → Ext B D ⟨W, B'.E0, fun b => b ≠ Dd ∧ (B'.w0.heap.size ≤ b ∨ B'.M b), B'.X⟩ (mark Dd :: D') := fun {Dd W E' h'} hD m hK hback => by
           obtain ⟨ds, e, nd, hds⟩ := hx.d
           have hBs : B.w0.heap.size ≤ w.heap.size := (hx.mem _ _ _ st.mem).size
           refine ⟨fun E2 h2 w2 m2 => hx.mem _ _ _ (hback _ _ _ m2), hx.e0, hx.x, Dd :: ds, by rw [e]; rfl, List.nodup_cons.2 ⟨fun hm => ?_, nd⟩, fun d hd => ?_⟩
           ·have := (hds _ hm).2.1; omega
           ·rcases List.mem_cons.1 hd with rfl | hd
            ·exact ⟨by omega, (Array.getElem?_eq_some_iff.1 hK).1, fun hh => hh.1 rfl, hK⟩
            ·obtain ⟨d1, d2, d3, d4⟩ := hds d hd
             refine ⟨d1, by have := m.size; show d < W.heap.size; omega, fun hh => ?_, (m.keeps d d2 d3).trans d4⟩
             rcases hh.2 with h1 | h1
             ·omega
             ·exact d3 h1
          have hI0 : I 0 w := by
           obtain ⟨E', q1, q2⟩ := fits_ok hb0' r1.2 st1
           exact ⟨r1.1, E', q1, q2⟩
          have psz : ps = #[p] := by apply Array.ext'; rw [hps]
          subst psz
          refine wpIn_range hfv hent nn v rfl I Ix ?_ ?_ hI0 ?_ ?_ ?_ ?_
          ·rintro j W W' row ⟨hpj, E', q1, q2⟩ hg hrow
           exact ⟨hpj, E', ⟨q1.mem.turn hg fun r e => ⟨by have := (hrow r e).1; omega, (hrow r e).2⟩, q1.slots, q1.size, q1.defers⟩, q2⟩
          ·rintro W W' row ⟨s', h', E', q1, q2⟩ hg hrow
           exact ⟨s', h', E', q1, q2.mem.turn hg fun r e => ⟨by have := (hrow r e).1; omega, (hrow r e).2⟩, q2.slots, q2.size, q2.defers⟩
          ·intro lp J Jx W hJ hJI hY hJ0
           refine hit lp Bs b off nn cap hreach (fun j => (el j).1) (fun j => (el j).2.1) (fun j => (el j).2.2.1) (fun j => (el j).2.2.2.1) (fun j => (el j).2.2.2.2) J Jx hJ ?_ hY W hJ0
           intro j W hj
           obtain ⟨_, E', q1, q2⟩ := hJI j W hj
           have mono : ∀ {bb o : Nat} {vs : List Value}, E1.at_ bb o vs → E'.at_ bb o vs := fun {bb o vs} ⟨cs, pre, post, h1, h2, h3⟩ => ⟨cs, pre, post, q2.p _ _ h1, h2, h3⟩
           refine ⟨q1.mem.at_cell (mono hat1) (k := 0) rfl, fun j' hj' => ?_⟩
           obtain ⟨g1, g2, g3, _⟩ := hel j' hj'
           exact ⟨q1.mem.at_cell (mono hat2) g1, by have := q1.mem.at_cell (mono hat2) g2; rwa [← Nat.add_assoc] at this, by have := q1.mem.at_cell (mono hat2) g3; rwa [← Nat.add_assoc] at this⟩
          ·rintro lp j W hlp hrec ⟨hpj, E', q1, q2⟩ hj
           have hrun := allN_get r2 j (by rw [← hn]; exact hj) hpj
           have hv1 : rel E' (elT l j) (v j) := by
            have := rel_cut (k := 0) _ _ (hlb j hj) (hel j hj).2.2.2
            exact rel.mono q2 _ _ this
           have stA0 : St ⟨W, E', Mof E' (Γ.rinv.inv j).2, noX⟩ N [] E' (look (Γ.rinv.inv j).1) (Γ.rinv.inv j).2 { tmps := a.tmps, defers := [] } W := .of q1.mem.enter (q1.all hBX') q1.size rfl rfl
           have stA := stA0.put (Env.le.refl E') stA0.mem (d := some p) (A := elT l j) (v := v j) (fun x hx => by cases hx; exact hpN) hv1
           rw [← look_put] at stA
           have etm : ((#[p].zip #[v j]).foldl (fun t (x : Tmp × Value) => t.setIfInBounds x.1 x.2) a.tmps) = a.tmps.setIfInBounds p (v j) := by simp
           refine run_ok0 rfl hti hsp hm x _ _ [] failK _ _ E' _ W hnr.1 hrun (by rw [etm]; exact stA) (fun s1 h1 E2 a1 W1 hh st2 => ?_) (fun id s h E a w hh st => hh.elim) (fun s h E a w hh st => hh.elim)
           have mB := q1.mem.back st2.mem (q1.mem.longer st2.mem)
           refine ⟨q1.mem.keepsFrom st2.mem _, ⟨hpj, E', q1, q2⟩, fun W2 hg hnc => ?_⟩
           have mB2 := mB.turn hg fun r e => by cases e; exact ⟨by omega, hnc⟩
           have stB : St ⟨W2, E2, Mof E2 h1, noX⟩ N [] E2 (look s1) h1 a1 W2 := .of mB2.enter (st2.all rfl) st2.size st2.defers rfl
           have fin : ∀ {s3 : SL} {h3 : List AO} {E3 : Env} {a3 : Act} {W3 : World}, St ⟨W2, E2, Mof E2 h1, noX⟩ N [] E3 (look s3) h3 a3 W3 → St B' N D' E3 (look (Γ.rinv.inv j).1) h3 a W3 := fun {s3 h3 E3 a3 W3} st3 =>
            ⟨mB2.back st3.mem (mB2.longer st3.mem), fun k v hv => rel.mono (Env.le.trans st2.mem.le st3.mem.le) _ _ (q1.slots k v hv), q1.size, q1.defers⟩
           refine run_ok0 rfl hti hsp hm y _ _ [] _ _ _ E2 _ W2 hnr.2 hh stB (fun s3 h3 E3 a3 W3 hh3 st3 => ?_) (fun id s h E a w hh st => hh.elim) (fun s3 h3 E3 a3 W3 hh3 st3 => ?_)
           ·obtain ⟨E4, g1, g2⟩ := fits_ok hb0' hh3.2 (fin st3)
            exact ⟨mB2.keepsFrom st3.mem _, hh3.1, E4, g1, Env.le0_trans (q2.trans (Env.le.trans st2.mem.le st3.mem.le)) g2⟩
           ·exact ⟨mB2.keepsFrom st3.mem _, _, _, E3, hh3, fin st3⟩
          ·rintro Dd W hD ⟨hpn, E', q1, _⟩ hK
           rw [hn] at q1 hpn
           obtain ⟨g1, g2⟩ := q1.mem.guard (by omega) hK rfl
           refine hk _ _ _ _ (r3 hpn) ⟨_, mark Dd :: D', E', ext (W := W) hD q1.mem hK g2, g1, q1.slots, q1.size, ?_⟩
           rw [← q1.defers]; rfl
          ·rintro Dd W hD ⟨s', h', E', q1, q2⟩ hK
           obtain ⟨g1, g2⟩ := q2.mem.guard (by omega) hK rfl
           refine wpIn_ret (hrr _ _ _ _ q1 ⟨_, mark Dd :: D', E', ext (W := W) hD q2.mem hK g2, g1, q2.slots, q2.size, ?_⟩)
           rw [← q2.defers]; rfl
         ·exact hr.elim
        ·exact hr.elim
       ·exact hr.elim
      ·exact hr.elim
     ·exact hr.elim
    ·exact hr.elim
   ·exact hr.elim
  ·exact hr.elim
 ·exact hr.elim

end
open Go.RowKit

theorem look_unS (S : Nat) : ∀ (s : SL) (k : Nat), look (unS S s) k = look s (k + S)
 | [], k => rfl
 | (j, v) :: t, k => by
   have ih := look_unS S t k
   simp only [unS]
   cases hb : Nat.ble S j with
   | true =>
     have hle := Nat.le_of_ble_eq_true hb
     simp only [unSb, look_cons]
     cases h1 : Nat.beq (j - S) k with
     | true =>
       have := Nat.eq_of_beq_eq_true h1
       have : Nat.beq j (k + S) = true := by rw [Nat.beq_eq]; omega
       rw [this]
     | false =>
       have h1' : j - S ≠ k := fun e => by rw [e, Nat.beq_refl] at h1; cases h1
       have : Nat.beq j (k + S) = false := by
        cases h2 : Nat.beq j (k + S) with
        | false => rfl
        | true => have := Nat.eq_of_beq_eq_true h2; omega
       rw [this]; exact ih
   | false =>
     simp only [unSb, look_cons]
     have : Nat.beq j (k + S) = false := by
      cases h2 : Nat.beq j (k + S) with
      | false => rfl
      | true =>
        have := Nat.eq_of_beq_eq_true h2
        have : Nat.ble S j = true := by rw [Nat.ble_eq]; omega
        rw [this] at hb; cases hb
     rw [this]; exact ih
theorem look_shS (S : Nat) : ∀ (s : SL) (k : Nat), look (shS S s) (k + S) = look s k
 | [], k => rfl
 | (j, v) :: t, k => by
   have ih := look_shS S t k
   simp only [shS, look_cons]
   have : Nat.beq (j + S) (k + S) = Nat.beq j k := by
    cases h : Nat.beq j k with
    | true => rw [Nat.beq_eq]; have := Nat.eq_of_beq_eq_true h; omega
    | false =>
      cases h2 : Nat.beq (j + S) (k + S) with
      | false => rfl
      | true =>
        have h3 : j = k := by have := Nat.eq_of_beq_eq_true h2; omega
        rw [h3, Nat.beq_refl] at h; cases h
   rw [this, ih]
theorem look_shS_lt (S : Nat) : ∀ (s : SL) (k : Nat), k < S → look (shS S s) k = .any
 | [], k, _ => rfl
 | (j, v) :: t, k, h => by
   simp only [shS, look_cons]
   have : Nat.beq (j + S) k = false := by
    cases h2 : Nat.beq (j + S) k with
    | false => rfl
    | true => have := Nat.eq_of_beq_eq_true h2; omega
   rw [this]; exact look_shS_lt S t k h
theorem look_appS : ∀ (l m : SL) (k : Nat), look (appS l m) k = look l k ∨ (look l k = .any ∧ look (appS l m) k = look m k)
 | [], m, k => .inr ⟨rfl, rfl⟩
 | (j, v) :: l, m, k => by
   simp only [appS, look_cons]
   cases Nat.beq j k with
   | true => exact .inl rfl
   | false => exact look_appS l m k
theorem look_argS_out : ∀ (l : List AV) (i k : Nat), k < i ∨ i + l.length ≤ k → look (argS i l) k = .any
 | [], i, k, _ => rfl
 | A :: l, i, k, h => by
   simp only [argS, look_cons]
   have : Nat.beq i k = false := by
    cases h2 : Nat.beq i k with
    | false => rfl
    | true => have := Nat.eq_of_beq_eq_true h2; simp at h; omega
   rw [this]; exact look_argS_out l (i + 1) k (by simp at h; omega)
theorem look_argS_in : ∀ (l : List AV) (i k : Nat) (h : k < l.length), look (argS i l) (i + k) = l[k]
 | A :: l, i, 0, _ => by simp only [argS, look_cons, Nat.add_zero, Nat.beq_refl, List.getElem_cons_zero]
 | A :: l, i, k + 1, h => by
   simp only [argS, look_cons]
   have : Nat.beq i (i + (k + 1)) = false := by
    cases h2 : Nat.beq i (i + (k + 1)) with
    | false => rfl
    | true => have := Nat.eq_of_beq_eq_true h2; omega
   rw [this]
   have := look_argS_in l (i + 1) k (by simpa using h)
   rw [show i + (k + 1) = i + 1 + k by omega]
   simpa using this

def cosB (N : Nat) : List CO → Bool
 | [] => true
 | co :: r => (COlooks co).all (fun n => decide (n < N)) && cosB N r
def ccB (N : Nat) : CC → Bool
 | .reg ops _ => cosB N ops
 | .seq a b => ccB N a && ccB N b
 | .cond x a b => (xslots [x]).all (fun n => decide (n < N)) && (ccB N a && ccB N b)
 | .block _ c | .loop c => ccB N c
 | _ => true
def dynRow (ops : Array Oper) : Bool := ops.toList.any fun o => match o.op with
 | .call c => match c.callee with | .value (.tmp _) => true | _ => false
 | _ => false
def dynOK : Code → Bool
 | .region _ ops draw => match draw with | true => !dynRow ops | false => true
 | .seq a b => dynOK a && dynOK b
 | .cond _ a b => dynOK a && dynOK b
 | .block _ c => dynOK c
 | .loop c => dynOK c
 | _ => true
theorem cosB_ok {N : Nat} : ∀ {l : List CO}, cosB N l = true → ∀ co ∈ l, ∀ n ∈ COlooks co, n < N
 | [], _, co, hc => by cases hc
 | c :: l, h, co, hc => by
   simp only [cosB, Bool.and_eq_true, List.all_eq_true, decide_eq_true_eq] at h
   rcases List.mem_cons.1 hc with rfl | hc
   ·exact h.1
   ·exact cosB_ok h.2 co hc
set_option maxHeartbeats 1000000 in
theorem compOp_call {ti : Nat → TInf} {mu : List Nat} {o : Oper} {t : Nat} {as : List X} (h : compOp ti mu o = .call (.t t) as) : ∃ c, o.op = .call c ∧ c.callee = .value (.tmp t) ∧ as = c.args.toList.map xof := by
 obtain ⟨dst, op, ty, pos, af, gd⟩ := o
 cases op
 case call c =>
  simp only [compOp] at h
  split at h
  ·rename_i f hc
   simp only [IOp.call.injEq] at h
   obtain ⟨h1, h2⟩ := h
   cases f with
   | tmp t' => simp only [xof, X.t.injEq] at h1; subst h1; exact ⟨c, rfl, hc, h2.symm⟩
   | const v => simp only [xof, reduceCtorEq] at h1
   | global g => simp only [xof, reduceCtorEq] at h1
   | func f => simp only [xof, reduceCtorEq] at h1
  all_goals exfalso; repeat' split at h
  all_goals first | cases h | skip
 case makeFunc fn first cap => cases fn <;> simp only [compOp] at h <;> (try cases h) <;> (repeat' split at h) <;> cases h
 all_goals (simp only [compOp] at h; first | (cases h; done) | (repeat' split at h) <;> cases h)


section
variable {P : Program} {ti : Nat → TInf} {B : Base} {E : Env} {h : List AO} {w : World} {a : Act} {N Ni : Nat} {mu pures : List Nat} {Γ : G} {n : Nat} {l K : Nat}

theorem dyn_of {draw : Bool} {all : Array Oper} : ∀ {ops : List Oper} {cs : List CO}, compOps ti mu pures draw N all ops = some cs → isDyn cs = true → ∃ o ∈ ops, ∃ c t, o.op = .call c ∧ c.callee = .value (.tmp t)
 | [], cs, h, hd => by simp only [compOps, Option.some.injEq] at h; subst h; cases hd
 | x :: ops, cs, h, hd => by
   simp only [compOps] at h
   split at h
   ·rename_i gg cl h1 h2 h3
    cases h
    simp only [isDyn] at hd
    split at hd
    ·rename_i t as he
     obtain ⟨c, k1, k2, _⟩ := compOp_call he
     exact ⟨x, by simp, c, t, k1, k2⟩
    ·obtain ⟨o, ho, q⟩ := dyn_of h2 hd
     exact ⟨o, List.mem_cons_of_mem _ ho, q⟩
   ·cases h
theorem dynRow_of {draw : Bool} {ops : Array Oper} {cs : List CO} (h : compOps ti mu pures draw N ops ops.toList = some cs) (hd : isDyn cs = true) : dynRow ops = true := by
 obtain ⟨o, ho, c, t, h1, h2⟩ := dyn_of h hd
 unfold dynRow
 rw [List.any_eq_true]
 exact ⟨o, ho, by rw [h1]; simp only [h2]⟩

def Bg (B : Base) (W : World) (l K : Nat) (X : Nat → Option Value) : Base := ⟨W, B.E0, fun b => b ≠ l ∧ b ≠ K ∧ (B.w0.heap.size ≤ b ∨ B.M b), X⟩
theorem Mem.guard2 (m : Mem B E h w) {ol oK : Obj} (hl : B.w0.heap.size ≤ l) (hK : B.w0.heap.size ≤ K) (h1 : w.heap[l]? = some ol) (c1 : ol.isCells = false) (h2 : w.heap[K]? = some oK) (c2 : oK.isCells = false) (X : Nat → Option Value) :
  Mem (Bg B w l K X) E h w ∧ ∀ E' h' w', Mem (Bg B w l K X) E' h' w' → Mem B E' h' w' := by
 constructor
 ·refine ⟨m.le, Nat.le_refl _, rfl, rfl, rfl, fun _ _ _ => rfl, m.sat, fun i ob hi => ?_, m.inj, fun b hb => ?_, m.fresh, m.base, ⟨fun b hb => ?_, fun b hb => ?_⟩⟩
  ·obtain ⟨q1, b, s, q2, q3⟩ := m.obj i ob hi
   refine ⟨q1, b, s, q2, ?_⟩
   rcases q3 with q3 | q3 | ⟨hf, hs, cur, T, fr, vs, post, g1, g2, g3, g4, g5, g6, g7⟩
   ·exact .inl q3
   ·exact .inr (.inl q3)
   ·exact .inr (.inr ⟨hf, hs, cur, T, fr, vs, post, g1, g2, g3, g4, g5, g6, .inr ⟨fun e => (by subst e; rw [g1] at h1; cases h1; cases c1), fun e => (by subst e; rw [g1] at h2; cases h2; cases c2), g7⟩⟩)
  ·rcases m.newP b hb with k1 | k1
   ·exact .inl k1
   ·cases hp : E.p b with
    | none => exact absurd hp hb
    | some cs =>
      obtain ⟨T, fr, k2⟩ := m.sat b cs hp
      refine .inr (.inr ⟨fun e => ?_, fun e => ?_, k1⟩)
      ·subst e; rw [k2] at h1; cases h1; cases c1
      ·subst e; rw [k2] at h2; cases h2; cases c2
  ·obtain ⟨k1, cs, T, fr, k2, k3, k4⟩ := m.xt.ow b hb
   exact ⟨k1.imp id fun k1 => .inr ⟨fun e => (by subst e; rw [k3] at h1; cases h1; cases c1), fun e => (by subst e; rw [k3] at h2; cases h2; cases c2), k1⟩, cs, T, fr, k2, k3, k4⟩
  ·obtain ⟨k1, ⟨cs, T, fr, k3, k4⟩, k5⟩ := m.xt.wl b hb
   exact ⟨.inr ⟨fun e => (by subst e; rw [k3] at h1; cases h1; cases c1), fun e => (by subst e; rw [k3] at h2; cases h2; cases c2), k1⟩, ⟨cs, T, fr, k3, k4⟩, k5⟩
 ·intro E' h' w' m'
  refine ⟨m'.le, Nat.le_trans m.size m'.size, m'.os.trans m.os, m'.tape.trans m.tape, m'.output.trans m.output, fun b hb hM => ?_, m'.sat, fun i ob hi => ?_, m'.inj, fun b hb => ?_, m'.fresh, m'.base, ⟨fun b hb => ?_, fun b hb => ?_⟩⟩
  ·refine (m'.keeps b (by have := m.size; show b < w.heap.size; omega) (fun hh => ?_)).trans (m.keeps b hb hM)
   rcases hh.2.2 with k1 | k1
   ·omega
   ·exact hM k1
  ·obtain ⟨q1, b, s, q2, q3⟩ := m'.obj i ob hi
   refine ⟨q1, b, s, q2, ?_⟩
   rcases q3 with q3 | q3 | ⟨hf, hs, cur, T, fr, vs, post, g1, g2, g3, g4, g5, g6, g7⟩
   ·exact .inl q3
   ·exact .inr (.inl q3)
   ·refine .inr (.inr ⟨hf, hs, cur, T, fr, vs, post, g1, g2, g3, g4, g5, g6, ?_⟩)
    rcases g7 with g7 | g7
    ·left; have := m.size; have : w.heap.size ≤ b := g7; omega
    ·exact g7.2.2
  ·rcases m'.newP b hb with k1 | k1 | k1
   ·exact .inl k1
   ·right; left; have := m.size; have : w.heap.size ≤ b := k1; omega
   ·exact .inr k1.2.2
  ·obtain ⟨k1, k2⟩ := m'.xt.ow b hb
   refine ⟨k1.imp id fun k1 => ?_, k2⟩
   rcases k1 with k1 | k1
   ·left; have := m.size; have : w.heap.size ≤ b := k1; omega
   ·exact k1.2.2
  ·obtain ⟨k1, k2⟩ := m'.xt.wl b hb
   refine ⟨?_, k2⟩
   rcases k1 with k1 | k1
   ·left; have := m.size; have : w.heap.size ≤ b := k1; omega
   ·exact k1.2.2

def Xc (m : Bool) (Ni : Nat) (a : Act) : Nat → Option Value := fun k => if k = Ni then some (.bool m) else some (a.tmps.getD (k - (Ni + 1)) undef)
def recd (fn : FuncId) (a : Act) (ps : Array Tmp) (ca cb : Code) (K : Nat) (m : Bool) : Loop :=
 { state := if m then .done else .ready, pending := if m then some .ret else none, fn, tmps := a.tmps, params := ps, assign := ca, body := cb, defers := K }
structure Iy (B : Base) (a : Act) (l K : Nat) (R : Bool → Loop) (Ni : Nat) (s : SL) (h : List AO) (ai : Act) (W : World) (W0 : World) (E : Env) (m : Bool) : Prop where
 back : ∀ E2 h2 w2, Mem (Bg B W0 l K (Xc m Ni a)) E2 h2 w2 → Mem B E2 h2 w2
 dK : W0.heap[K]? = some (.deferred (some []))
 dl : W0.heap[l]? = some (.loop (R m))
 st : St (Bg B W0 l K (Xc m Ni a)) Ni [] E (look s) h ai W
def Iz (B : Base) (a : Act) (l K : Nat) (R : Bool → Loop) (Ni : Nat) (s : SL) (h : List AO) (ai : Act) (W : World) : Prop := ∃ W0 E m, Iy B a l K R Ni s h ai W W0 E m

theorem Iy.rcd {R : Bool → Loop} {s : SL} {ai : Act} {W W0 : World} {m : Bool} (q : Iy B a l K R Ni s h ai W W0 E m) : W.heap[l]? = some (.loop (R m)) :=
 (q.st.mem.keeps l (Array.getElem?_eq_some_iff.1 q.dl).1 (fun hh => hh.1 rfl)).trans q.dl
theorem Iy.defd {R : Bool → Loop} {s : SL} {ai : Act} {W W0 : World} {m : Bool} (q : Iy B a l K R Ni s h ai W W0 E m) : W.heap[K]? = some (.deferred (some [])) :=
 (q.st.mem.keeps K (Array.getElem?_eq_some_iff.1 q.dK).1 (fun hh => hh.2.1 rfl)).trans q.dK
theorem Iy.mode {R : Bool → Loop} {s : SL} {ai : Act} {W W0 : World} {m b : Bool} (q : Iy B a l K R Ni s h ai W W0 E m) (hb : look s Ni = .bool b) : m = b := by
 have := q.st.slots Ni (.bool m) (by unfold tv; rw [if_neg (Nat.lt_irrefl _)]; show Xc m Ni a Ni = _; unfold Xc; rw [if_pos rfl])
 rw [hb] at this
 simp only [rel, Value.bool.injEq] at this
 exact this
theorem Iy.outer {R : Bool → Loop} {s : SL} {ai : Act} {W W0 : World} {m : Bool} (q : Iy B a l K R Ni s h ai W W0 E m) (k : Nat) : rel E (look (unS (Ni + 1) s) k) (a.tmps.getD k undef) := by
 rw [look_unS]
 refine q.st.slots (k + (Ni + 1)) _ ?_
 unfold tv
 rw [if_neg (by omega)]
 show Xc m Ni a _ = _
 unfold Xc
 rw [if_neg (by omega), Nat.add_sub_cancel]

theorem St.bind {B : Base} {D : List Deferred} {W : World} : ∀ {ps : List Nat} {as : List AV} {vs : List Value} {s : SL} {t : Array Value}, relL E as vs → as.length = ps.length → ltAll ps N = true → St B N D E (look s) h { tmps := t, defers := D } W →
  St B N D E (look (bindP ps as s)) h { tmps := (ps.zip vs).foldl (fun t p => t.setIfInBounds p.1 p.2) t, defers := D } W
 | [], as, vs, s, t, _, _, _, st => by cases as <;> simpa [bindP] using st
 | p :: ps, [], vs, s, t, _, hl, _, st => by simp at hl
 | p :: ps, x :: as, vs, s, t, hr, hl, hp, st => by
   simp only [relL] at hr
   obtain ⟨u, us, rfl, h1, h2⟩ := hr
   simp only [ltAll] at hp
   split at hp
   ·rename_i hb
    have hpN : p < N := by simpa using hb
    have := st.put (Env.le.refl E) st.mem (d := some p) (A := x) (v := u) (fun y hy => by cases hy; exact hpN) h1
    rw [← look_put] at this
    simp only [bindP, List.zip_cons_cons, List.foldl_cons]
    exact St.bind h2 (by simpa using hl) hp this
   ·cases hp

theorem nlen_eq : ∀ l : List Nat, nlen l = l.length
 | [] => rfl
 | _ :: l => by simp [nlen, nlen_eq l]

theorem ltAll_mono {x y : Nat} (hxy : x ≤ y) : ∀ l : List Nat, ltAll l x = true → ltAll l y = true
 | [], _ => rfl
 | p :: r, hp => by
   simp only [ltAll] at hp ⊢
   split at hp
   ·rename_i hb
    have hb : p < x := by simpa using hb
    have : Nat.blt p y = true := by simp; omega
    rw [this]; exact ltAll_mono hxy r hp
   ·cases hp
theorem yield_ok (hti : TIok P ti) (hsp : SpOK P Γ.sp) (hm : P.follows .mixedOrders = true) (htn : Γ.tn ≤ N) {fn : FuncId} {ps : Array Tmp} {ca cb : Code} (hsz : a.tmps.size = N) (hlB : B.w0.heap.size ≤ l) (hKB : B.w0.heap.size ≤ K)
  (hnr : noR (comp ti mu pures N ca) = true ∧ noR (comp ti mu pures N cb) = true) (hps : ltAll ps.toList Γ.tn = true)
  {s : SL} {ai : Act} {W W0 : World} {m : Bool} (q : Iy B a l K (recd fn a ps ca cb K) Ni s h ai W W0 E m) {o : Oper} {c : Call} {t l' : Nat} (ho : o.op = .call c) (hc : c.callee = .value (.tmp t)) (hyl : look s t = .yl l')
  (hown : ∀ x ∈ xslots (.t t :: c.args.toList.map xof), x < Ni) (hd : ∀ x, o.dst = some x → x < Ni) {k : KT}
  (hY : yieldK l ps.toList (fun k r => run Γ (comp ti mu pures N ca) k [] r) (fun k r => run Γ (comp ti mu pures N cb) k [] r) Ni l' (xvs (look s) (c.args.toList.map xof)) o.dst k s h)
  {Kn : Act → World → Prop} {Q : Exit → Act → World → Prop} (hKn : ∀ s' h' ai' W', k s' h' → Iz B a l K (recd fn a ps ca cb K) Ni s' h' ai' W' → Kn ai' W') :
  o.uponIn (Fw none) n P ai Kn Q ((execOp ai.eval o).run P W) := by
 unfold yieldK at hY
 obtain ⟨rfl, hY⟩ := hY
 unfold yieldM at hY
 split at hY
 rotate_left
 ·exact hY.elim
 rename_i hmode hlen
 have hm0 := q.mode hmode
 subst hm0
 have hlen := Nat.eq_of_beq_eq_true hlen
 rw [llen_eq, nlen_eq] at hlen
 obtain ⟨gs, hgs, hsl⟩ := q.st.seen (L := xslots (.t t :: c.args.toList.map xof)) (.inr hown)
 have hft : ai.eval (.tmp t) = .func (.yield l') #[] #[] := by
  have := rel_x hsl (.tmp t)
  rw [show xv gs (xof (.tmp t)) = gs t from rfl, hgs t (by simp [xslots]), hyl] at this
  simpa only [rel] using this
 have has : relL E (xvs (look s) (c.args.toList.map xof)) (c.args.toList.map ai.eval) := by
  have := relL_xvs hsl (a := ai) c.args.toList
  rwa [xvs_congr (g := gs) (g' := look s) fun x hx => hgs x (mem_xslots_cons.2 (.inr hx))] at this
 have hrec := q.rcd
 have hsa : (c.args.map ai.eval).size = (recd fn a ps ca cb K false).params.size := by
  have := relL_length has
  simp only [List.length_map, Array.length_toList] at this
  simp only [Array.size_map, recd]
  rw [this, hlen, Array.length_toList]
 have hy := run_yield (P := P) (args := c.args.map ai.eval) hrec hsa
 have hrun : (execOp ai.eval o).run P W = .ok (.round l' fn ((ps.zip (c.args.map ai.eval)).foldl (fun t p => t.setIfInBounds p.1 p.2) a.tmps) ca cb) W := by
  unfold execOp
  simp only [ho, resolve, hc, hft, Deferred.ofValue, Sem.run_bind, Sem.run_pure, Result.andThen_ok, invoke, Array.empty_append, Array.append_empty]
  exact hy
 rw [hrun, Oper.uponIn_round]
 refine ⟨fun hh => (by rw [Fw_depth] at hh; cases hh), ?_⟩
 refine roundIn_any (n := 0) (roundIn_of_wpIn Fw_fn ?_)
 rw [Fw_in]
 -- the round's frame
 have stA0 : St ⟨W, E, Mof E h, noX⟩ N [] E (look (unS (Ni + 1) s)) h { tmps := a.tmps, defers := [] } W := .of q.st.mem.enter q.outer hsz rfl rfl
 have ltN : ltAll ps.toList N = true := ltAll_mono htn _ hps
 have stA := stA0.bind has hlen ltN
 have etm : (ps.zip (c.args.map ai.eval)).foldl (fun t p => t.setIfInBounds p.1 p.2) a.tmps = (ps.toList.zip (c.args.toList.map ai.eval)).foldl (fun t p => t.setIfInBounds p.1 p.2) a.tmps := by
  rw [← Array.foldl_toList, Array.toList_zip, Array.toList_map]
 rw [etm]
 refine run_ok0 rfl hti hsp hm ca _ _ [] failK _ _ E _ W hnr.1 hY stA (fun s1 h1 E2 a1 W1 hh st2 => ?_) (fun id s h E a w hh st => hh.elim) (fun s h E a w hh st => hh.elim)
 have mB := q.st.mem.back st2.mem (q.st.mem.longer st2.mem)
 have hl1 : W1.heap[l']? = some (.loop (recd fn a ps ca cb K false)) := (mB.keeps l' (Array.getElem?_eq_some_iff.1 q.dl).1 (fun hh => hh.1 rfl)).trans q.dl
 have hK1 : W1.heap[K]? = some (.deferred (some [])) := (mB.keeps K (Array.getElem?_eq_some_iff.1 q.dK).1 (fun hh => hh.2.1 rfl)).trans q.dK
 refine ⟨_, run_beginRound hl1 rfl, ?_⟩
 have mB1 := q.back _ _ _ mB
 have mB2 := mB1.turn (grownBy_putObj' W1 l' (.loop { recd fn a ps ca cb K false with state := .busy })) fun r e => by cases e; exact ⟨hlB, _, hl1, rfl⟩
 have hne : K ≠ l' := fun e => by rw [e, hl1] at hK1; cases hK1
 have hl2 : (W1.putObj l' (.loop { recd fn a ps ca cb K false with state := .busy })).heap[l']? = some (.loop { recd fn a ps ca cb K false with state := .busy }) := World.putObj_heap_same (Array.getElem?_eq_some_iff.1 hl1).1
 have hK2 : (W1.putObj l' (.loop { recd fn a ps ca cb K false with state := .busy })).heap[K]? = some (.deferred (some [])) := (World.putObj_heap_other hne).trans hK1
 have stB : St ⟨W1.putObj l' (.loop { recd fn a ps ca cb K false with state := .busy }), E2, Mof E2 h1, noX⟩ N [] E2 (look s1) h1 a1 (W1.putObj l' (.loop { recd fn a ps ca cb K false with state := .busy })) := .of mB2.enter (st2.all rfl) st2.size st2.defers rfl
 -- behind the round
 have fin : ∀ (j : Option Code) (b : Bool) (s0 : SL) {s3 : SL} {h3 : List AO} {E3 : Env} {a3 : Act} {W3 : World}, (j = none ∧ b = false ∧ s0 = s ∨ j = some .ret ∧ b = true ∧ s0 = (Ni, .bool true) :: s) → k (put o.dst (.bool (!b)) s0) h3 →
   St ⟨W1.putObj l' (.loop { recd fn a ps ca cb K false with state := .busy }), E2, Mof E2 h1, noX⟩ N [] E3 (look s3) h3 a3 W3 → ∃ v w', (Instr.endRound l' j).run P W3 = .ok v w' ∧ Kn (ai.put o.dst v) w' := fun j b s0 {s3 h3 E3 a3 W3} hj hk3 st3 => by
  have kf := mB2.keepsFrom st3.mem 0
  have hl3 := kf.same _ _ (Nat.zero_le _) hl2 rfl
  have hK3 := kf.same _ _ (Nat.zero_le _) hK2 rfl
  have m3 := mB2.back st3.mem (mB2.longer st3.mem)
  refine ⟨_, _, run_endRound j hl3, ?_⟩
  have er : (⟨if j.isNone then LoopState.ready else .done, j, fn, a.tmps, ps, ca, cb, K⟩ : Loop) = recd fn a ps ca cb K b := by
   rcases hj with ⟨rfl, rfl, _⟩ | ⟨rfl, rfl, _⟩ <;> rfl
  have eb : j.isNone = !b := by rcases hj with ⟨rfl, rfl, _⟩ | ⟨rfl, rfl, _⟩ <;> rfl
  have eo : W3.putObj l' (.loop { ({ recd fn a ps ca cb K false with state := .busy } : Loop) with state := if j.isNone then .ready else .done, pending := j }) = W3.putObj l' (.loop (recd fn a ps ca cb K b)) := by rw [← er]; rfl
  rw [eo, eb]
  have m4 := m3.turn (grownBy_putObj' W3 l' (.loop (recd fn a ps ca cb K b))) fun r e => by cases e; exact ⟨hlB, _, hl3, rfl⟩
  have hl4 : (W3.putObj l' (.loop (recd fn a ps ca cb K b))).heap[l']? = some (.loop (recd fn a ps ca cb K b)) := World.putObj_heap_same (Array.getElem?_eq_some_iff.1 hl3).1
  have hK4 : (W3.putObj l' (.loop (recd fn a ps ca cb K b))).heap[K]? = some (.deferred (some [])) := (World.putObj_heap_other hne).trans hK3
  obtain ⟨g1, g2⟩ := m4.guard2 hlB hKB hl4 rfl hK4 rfl (Xc b Ni a)
  have le := Env.le.trans st2.mem.le st3.mem.le
  refine hKn _ _ _ _ hk3 ⟨_, E3, b, g2, hK4, hl4, ?_⟩
  have st4 : St (Bg B (W3.putObj l' (.loop (recd fn a ps ca cb K b))) l' K (Xc b Ni a)) Ni [] E3 (look s0) h3 ai (W3.putObj l' (.loop (recd fn a ps ca cb K b))) := by
   refine ⟨g1, fun x v hv => ?_, q.st.size, q.st.defers⟩
   unfold tv at hv
   by_cases hx : x < Ni
   ·rw [if_pos hx] at hv
    have : look s0 x = look s x := by
     rcases hj with ⟨_, _, rfl⟩ | ⟨_, _, rfl⟩
     ·rfl
     ·simp only [look_cons]
      have : Nat.beq Ni x = false := by
       cases h2 : Nat.beq Ni x with
       | false => rfl
       | true => have := Nat.eq_of_beq_eq_true h2; omega
      rw [this]
    rw [this]
    exact rel.mono le _ _ (q.st.slots x v (by unfold tv; rw [if_pos hx]; exact hv))
   ·rw [if_neg hx] at hv
    by_cases hx2 : x = Ni
    ·subst hx2
     have hv : Xc b x a x = some v := hv
     unfold Xc at hv
     rw [if_pos rfl] at hv
     cases hv
     rcases hj with ⟨_, rfl, rfl⟩ | ⟨_, rfl, rfl⟩
     ·rw [hmode]; simp only [rel]
     ·simp only [look_cons, Nat.beq_refl, rel]
    ·have : look s0 x = look s x := by
      rcases hj with ⟨_, _, rfl⟩ | ⟨_, _, rfl⟩
      ·rfl
      ·simp only [look_cons]
       have : Nat.beq Ni x = false := by
        cases h2 : Nat.beq Ni x with
        | false => rfl
        | true => have := Nat.eq_of_beq_eq_true h2; omega
       rw [this]
     rw [this]
     refine rel.mono le _ _ (q.st.slots x v ?_)
     have hv : Xc b Ni a x = some v := hv
     unfold tv
     rw [if_neg hx]
     show Xc false Ni a x = some v
     unfold Xc at hv ⊢
     rw [if_neg hx2] at hv ⊢; exact hv
  have st5 := st4.put (Env.le.refl E3) st4.mem (d := o.dst) (A := .bool (!b)) (v := .bool (!b)) hd (by simp only [rel])
  rw [← look_put] at st5
  exact st5
 refine run_ok0 rfl hti hsp hm cb _ _ [] _ _ _ E2 _ _ hnr.2 hh stB (fun s3 h3 E3 a3 W3 hh3 st3 => ?_) (fun id s h E a w hh st => hh.elim) (fun s3 h3 E3 a3 W3 hh3 st3 => ?_)
 ·exact fin none false s (.inl ⟨rfl, rfl, rfl⟩) hh3 st3
 ·exact fin (some .ret) true ((Ni, .bool true) :: s) (.inr ⟨rfl, rfl, rfl⟩) hh3 st3
theorem argS_look {vs : List Value} : ∀ {l : List AV} {i : Nat}, relL E l (vs.drop i) → ∀ k, rel E (look (argS i l) k) (vs.toArray.getD k undef)
 | [], i, _, k => by simp only [argS, look, rel]
 | A :: l, i, hr, k => by
   simp only [relL] at hr
   obtain ⟨u, us, h1, h2, h3⟩ := hr
   simp only [argS, look_cons]
   split
   ·rename_i hb
    have e := Nat.eq_of_beq_eq_true hb
    subst e
    have : vs[i]? = some u := by
     have : (vs.drop i)[0]? = some u := by rw [h1]; rfl
     simpa using this
    simp only [Array.getD_eq_getD_getElem?, List.getElem?_toArray, this, Option.getD_some]
    exact h2
   ·refine argS_look (i := i + 1) ?_ k
    have : vs.drop (i + 1) = us := by
     rw [← List.drop_drop, h1]; rfl
    rw [this]; exact h3


theorem doOp_step {sp : Sp} {co : CO} {k : KT} {s s1 : SL} (e : look s1 = look s) (hg : gd (look s) co.g = some true) (hm : doOp sp co k s1 h) : ∃ A h', astep sp co (look s, h) = some (upd (look s) co.d A, h') ∧ k (put co.d A s1) h' := by
 unfold astep
 simp only [hg]
 rw [← e]
 unfold doOp at hm
 unfold onER at hm
 split at hm
 ·rename_i C A he
  obtain ⟨hC, hm⟩ := conj_iff.1 hm
  exact ⟨A, _, by rw [he]; simp only [hC, if_true], hm⟩
 ·rename_i C A h1 he
  obtain ⟨hC, hm⟩ := conj_iff.1 hm
  exact ⟨A, _, by rw [he]; simp only [hC, if_true], hm⟩
 ·rename_i C h1 he
  obtain ⟨hC, hm⟩ := conj_iff.1 hm
  exact ⟨.undef, _, by rw [he]; simp only [hC, if_true], hm⟩
 ·exact hm.elim

theorem Iz.fits {R : Bool → Loop} {k0 : Nat} (hb0 : ∀ i, k0 ≤ i → B.E0.ι i = none) {ren : Bool} {s : SL} {t : SL × List AO} {ai : Act} {W : World} (q : Iz B a l K R Ni s h ai W) (hf : fits ren k0 s h t) : Iz B a l K R Ni t.1 t.2 ai W := by
 obtain ⟨W0, E, m, q⟩ := q
 obtain ⟨E', st', _⟩ := fits_ok (B := Bg B W0 l K (Xc m Ni a)) hb0 hf q.st
 exact ⟨W0, E', m, q.back, q.dK, q.dl, st'⟩
theorem Iz.weaken {R : Bool → Loop} {s s' : SL} {ai : Act} {W : World} (q : Iz B a l K R Ni s h ai W) (hs : ∀ k, look s' k = look s k ∨ look s' k = .any) : Iz B a l K R Ni s' h ai W := by
 obtain ⟨W0, E, m, q⟩ := q
 exact ⟨W0, E, m, q.back, q.dK, q.dl, q.st.weaken hs⟩

variable {muI puresI : List Nat} {kp : List Nat}
theorem opsY_ok (hti : TIok P ti) (hsp : SpOK P Γ.sp) (hm : P.follows .mixedOrders = true) (htn : Γ.tn ≤ N) {fn : FuncId} {ps : Array Tmp} {ca cb : Code} (hsz : a.tmps.size = N) (hlB : B.w0.heap.size ≤ l) (hKB : B.w0.heap.size ≤ K)
  (hnr : noR (comp ti mu pures N ca) = true ∧ noR (comp ti mu pures N cb) = true) (hps : ltAll ps.toList Γ.tn = true) {ops : Array Oper} {cs : List CO} {draw : Bool} (hc : compOps ti muI puresI draw Ni ops ops.toList = some cs) (hcb : cosB Ni cs = true) {k : KT} {Q : Exit → Act → World → Prop}
  (hk : ∀ s h ai W, k s h → Iz B a l K (recd fn a ps ca cb K) Ni s h ai W → Q .normal ai W) :
  ∀ (d j : Nat) (s : SL) (h : List AO) (ai : Act) (W : World), j + d = ops.size → runOpsY Γ.sp kp (yieldK l ps.toList (fun k r => run Γ (comp ti mu pures N ca) k [] r) (fun k r => run Γ (comp ti mu pures N cb) k [] r) Ni) (cs.drop j) k s h → Iz B a l K (recd fn a ps ca cb K) Ni s h ai W →
   wpOpsIn (Fw none) n P ops Q (List.range' j d) ai W := by
 obtain ⟨k1, k2⟩ := compOps_get hc
 intro d
 induction d with
 | zero =>
   intro j s h ai W hj hr q
   have : cs.drop j = [] := by simp; rw [k1, Array.length_toList]; omega
   rw [this] at hr
   simp only [runOpsY] at hr
   exact hk _ _ _ _ hr (q.weaken (look_trim _ _))
 | succ d ih =>
   intro j s h ai W hj hr q
   have hjo : j < ops.size := by omega
   have hjc : j < cs.length := by rw [k1, Array.length_toList]; exact hjo
   rw [List.drop_eq_getElem_cons hjc] at hr
   rw [List.range'_succ, wpOpsIn_cons]
   generalize hco : cs[j] = co at hr
   have hco' : cs[j]? = some co := by rw [List.getElem?_eq_getElem hjc, hco]
   have hi : ops[j]? = some ops[j] := by simp
   generalize ops[j] = o at hi
   obtain ⟨q1, q2, q3, q4, _⟩ := k2 j o co (by simpa using hi) hco'
   have hlk := cosB_ok hcb co (List.mem_of_getElem? hco')
   -- what is no call of yield
   have plain : ∀ {A : AV} {h' : List AO} {s1 : SL}, look s1 = look s → astep Γ.sp co (look s, h) = some (upd (look s) co.d A, h') → runOpsY Γ.sp kp (yieldK l ps.toList (fun k r => run Γ (comp ti mu pures N ca) k [] r) (fun k r => run Γ (comp ti mu pures N cb) k [] r) Ni) (cs.drop (j + 1)) k (put co.d A s1) h' →
     wpOpIn (Fw none) n P ops Q j (wpOpsIn (Fw none) n P ops Q (List.range' (j + 1) d)) ai W := fun {A h' s1} e hst hrest => by
    obtain ⟨W0, E, m, q⟩ := q
    refine step_ok hti hsp q.st hi q1 q2 q3 q4 (.inr hlk) hst fun E' a' w' s' => ih (j + 1) _ _ a' w' (by omega) hrest ⟨W0, E', m, q.back, q.dK, q.dl, ?_⟩
    rw [look_put, e]; exact s'
   have step : ∀ {s1 : SL}, look s1 = look s → gd (look s) co.g = some true → doY Γ.sp (yieldK l ps.toList (fun k r => run Γ (comp ti mu pures N ca) k [] r) (fun k r => run Γ (comp ti mu pures N cb) k [] r) Ni) co (runOpsY Γ.sp kp (yieldK l ps.toList (fun k r => run Γ (comp ti mu pures N ca) k [] r) (fun k r => run Γ (comp ti mu pures N cb) k [] r) Ni) (cs.drop (j + 1)) k) s1 h →
     wpOpIn (Fw none) n P ops Q j (wpOpsIn (Fw none) n P ops Q (List.range' (j + 1) d)) ai W := fun {s1} e hg hd => by
    have op : doOp Γ.sp co (runOpsY Γ.sp kp (yieldK l ps.toList (fun k r => run Γ (comp ti mu pures N ca) k [] r) (fun k r => run Γ (comp ti mu pures N cb) k [] r) Ni) (cs.drop (j + 1)) k) s1 h → wpOpIn (Fw none) n P ops Q j (wpOpsIn (Fw none) n P ops Q (List.range' (j + 1) d)) ai W := fun hd => by
     obtain ⟨A, h', hst, hrest⟩ := doOp_step e hg hd
     exact plain e hst hrest
    unfold doY at hd
    split at hd
    ·rename_i t as hcall
     unfold doYo at hd
     split at hd
     ·rename_i l' hyl
      rw [q1] at hcall
      obtain ⟨c, c1, c2, c3⟩ := compOp_call hcall
      obtain ⟨W0, E, m, q⟩ := q
      unfold wpOpIn
      simp only [hi]
      obtain ⟨gs, hgs, hsl⟩ := q.st.seen (L := COlooks co) (.inr hlk)
      rw [wanted_ok hsl q3 ((gd_congr hgs).trans hg)]
      simp only [if_true]
      refine ⟨fun f _ => Fw_fn, ?_⟩
      rw [Oper.semAt_eq _ _ _ (fun c' hc' => by rw [c1] at hc'; cases hc')]
      have st1 : Iy B a l K (recd fn a ps ca cb K) Ni s1 h ai W W0 E m := ⟨q.back, q.dK, q.dl, by rw [e]; exact q.st⟩
      rw [c3, q2] at hd
      refine yield_ok hti hsp hm htn hsz hlB hKB hnr hps st1 c1 c2 hyl (fun x hx => hlk x (looks_sub (by rw [q1, hcall, c3]; exact hx))) q4 hd fun s' h' ai' W' hk' q' => ?_
      exact ih (j + 1) s' h' ai' W' (by omega) hk' q'
     ·exact op hd
    ·exact op hd
   have skip : ∀ {s1 : SL}, look s1 = look s → gd (look s) co.g = some false → runOpsY Γ.sp kp (yieldK l ps.toList (fun k r => run Γ (comp ti mu pures N ca) k [] r) (fun k r => run Γ (comp ti mu pures N cb) k [] r) Ni) (cs.drop (j + 1)) k (put co.d .undef s1) h →
     wpOpIn (Fw none) n P ops Q j (wpOpsIn (Fw none) n P ops Q (List.range' (j + 1) d)) ai W := fun {s1} e hg hd => by
    refine plain e ?_ hd
    unfold astep
    simp only [hg]
   simp only [runOpsY] at hr
   cases hg : co.g with
   | none => rw [hg] at hr; exact step rfl (by rw [hg]; rfl) hr
   | some db =>
     obtain ⟨d', b⟩ := db
     rw [hg] at hr
     simp only [onGdY] at hr
     cases hp : look s d' <;> rw [hp] at hr <;> simp only [onGY] at hr
     case undef => exact skip rfl (by rw [hg]; simp only [gd, hp]) hr
     case bool p =>
      cases p <;> cases b <;> simp only [fork, ifBY] at hr
      ·exact step (look_known hp) (by rw [hg]; simp only [gd, hp]; rfl) hr
      ·exact skip (look_known hp) (by rw [hg]; simp only [gd, hp]; rfl) hr
      ·exact skip (look_known hp) (by rw [hg]; simp only [gd, hp]; rfl) hr
      ·exact step (look_known hp) (by rw [hg]; simp only [gd, hp]; rfl) hr

theorem runI_ok (hti : TIok P ti) (hsp : SpOK P Γ.sp) (hm : P.follows .mixedOrders = true) (hb0 : ∀ i, Γ.k0 ≤ i → B.E0.ι i = none) (htn : Γ.tn ≤ N) {fn : FuncId} {ps : Array Tmp} {ca cb : Code} (hsz : a.tmps.size = N) (hlB : B.w0.heap.size ≤ l) (hKB : B.w0.heap.size ≤ K)
  (hnr : noR (comp ti mu pures N ca) = true ∧ noR (comp ti mu pures N cb) = true) (hps : ltAll ps.toList Γ.tn = true) {Y : YT} (hY : Y = yieldK l ps.toList (fun k r => run Γ (comp ti mu pures N ca) k [] r) (fun k r => run Γ (comp ti mu pures N cb) k [] r) Ni) {R : Bool → Loop} (hR : R = recd fn a ps ca cb K) :
  ∀ (c : Code) (Q : Exit → Act → World → Prop) (k : KT) (X : List (Nat × KT)) (r : KT) (s : SL) (h : List AO) (ai : Act) (W : World),
  ccB Ni (comp ti muI puresI Ni c) = true → dynOK c = true → runI Γ kp Y (comp ti muI puresI Ni c) k X r s h → Iz B a l K R Ni s h ai W → (∀ s h ai W, k s h → Iz B a l K R Ni s h ai W → Q .normal ai W) → (∀ id s h ai W, xfind X id s h → Iz B a l K R Ni s h ai W → Q (.exit id) ai W) →
  (∀ s h ai W, r s h → Iz B a l K R Ni s h ai W → Q .ret ai W) → c.wpIn (Fw none) n P Q ai W
 | .skip, Q, k, X, r, s, h, ai, W, _, _, hr, st, hk, _, _ => by
   simp only [comp, runI] at hr
   exact wpIn_skip (hk _ _ _ _ hr st)
 | .ret, Q, k, X, r, s, h, ai, W, _, _, hr, st, _, _, hrr => by
   simp only [comp, runI] at hr
   exact wpIn_ret (hrr _ _ _ _ hr st)
 | .exit id, Q, k, X, r, s, h, ai, W, _, _, hr, st, _, hX, _ => by
   simp only [comp, runI] at hr
   exact wpIn_exit (hX _ _ _ _ _ hr st)
 | .region id ops draw, Q, k, X, r, s, h, ai, W, hcc, hdy, hr, st, hk, _, _ => by
   simp only [comp] at hr hcc
   split at hr
   ·rename_i cl hl
    rw [hl] at hcc
    have hlen := (compOps_get hl).1
    have main : ∀ {cf : List (Nat × Nat)}, cosB Ni cl = true → (draw = true → orderOK ops cl cf = true) → runOps Γ.sp kp cf cl k s h → (Code.region id ops draw).wpIn (Fw none) n P Q ai W := fun {cf} hcb hok hr => by
     obtain ⟨s', h', q1, q2, q3⟩ := runOps_ok cl s h hr
     obtain ⟨W0, E, m, q⟩ := st
     refine region_ok hti hsp hm hl (fun co hco => .inr (cosB_ok hcb co hco)) hok q.st (gF := look s') (hF := h') ?_ q3 fun E' a' w' st' => hk _ _ a' w' q2 ⟨W0, E', m, q.back, q.dK, q.dl, st'.weaken (look_trim _ _)⟩
     have := range_afold (sp := Γ.sp) (cs := cl) ops.size 0 (look s, h) (by rw [hlen]; simp)
     rw [List.range_eq_range', this]
     simpa using q1
    cases draw with
    | false =>
      simp only [runI] at hr
      simp only [ccB] at hcc
      cases hd : isDyn cl with
      | false => rw [hd] at hr; exact main hcc (fun e => by cases e) hr
      | true =>
        rw [hd] at hr
        simp only [dynB] at hr
        refine wpIn_region ?_
        rw [List.range_eq_range']
        subst hY hR
        exact opsY_ok (kp := kp) hti hsp hm htn hsz hlB hKB hnr hps hl hcc hk ops.size 0 s h ai W (by omega) (by simpa using hr) st
    | true =>
      simp only at hr hcc
      split at hr
      ·rename_i hok
       rw [if_pos hok] at hcc
       simp only [runI] at hr
       simp only [ccB] at hcc
       cases hd : isDyn cl with
       | false => rw [hd] at hr; exact main hcc (fun _ => hok) hr
       | true =>
         have := dynRow_of hl hd
         simp only [dynOK, this, Bool.not_true, Bool.false_eq_true] at hdy
      ·unfold altC at hr
       split at hr <;> simp only [runI] at hr
   ·simp only [runI] at hr
 | .seq x y, Q, k, X, r, s, h, ai, W, hcc, hdy, hr, st, hk, hX, hrr => by
   simp only [comp, runI] at hr
   simp only [comp, ccB, Bool.and_eq_true] at hcc
   simp only [dynOK, Bool.and_eq_true] at hdy
   refine wpIn_seq (runI_ok hti hsp hm hb0 htn hsz hlB hKB hnr hps hY hR x _ _ X r s h ai W hcc.1 hdy.1 hr st (fun s h ai W hh st => ?_) (fun id s h ai W hh st => hX id s h ai W hh st) (fun s h ai W hh st => hrr s h ai W hh st))
   exact runI_ok hti hsp hm hb0 htn hsz hlB hKB hnr hps hY hR y Q k X r s h ai W hcc.2 hdy.2 hh st hk hX hrr
 | .cond x c d, Q, k, X, r, s, h, ai, W, hcc, hdy, hr, st, hk, hX, hrr => by
   simp only [comp, runI] at hr
   simp only [comp, ccB, Bool.and_eq_true, List.all_eq_true, decide_eq_true_eq] at hcc
   simp only [dynOK, Bool.and_eq_true] at hdy
   obtain ⟨W0, E, m, q⟩ := id st
   obtain ⟨gs, hgs, hsl⟩ := q.st.seen (L := xslots [xof x]) (.inr hcc.1)
   have hx := rel_x hsl x
   rw [xv_congr hgs] at hx
   cases hp : xv (look s) (xof x) <;> rw [hp] at hr hx <;> simp only [onB] at hr
   rename_i p
   simp only [rel] at hx
   refine wpIn_cond hx ?_
   cases p
   ·exact runI_ok hti hsp hm hb0 htn hsz hlB hKB hnr hps hY hR d Q k X r s h ai W hcc.2.2 hdy.2 hr st hk hX hrr
   ·exact runI_ok hti hsp hm hb0 htn hsz hlB hKB hnr hps hY hR c Q k X r s h ai W hcc.2.1 hdy.1 hr st hk hX hrr
 | .block id c, Q, k, X, r, s, h, ai, W, hcc, hdy, hr, st, hk, hX, hrr => by
   simp only [comp, runI] at hr
   simp only [comp, ccB] at hcc
   simp only [dynOK] at hdy
   refine wpIn_block (runI_ok hti hsp hm hb0 htn hsz hlB hKB hnr hps hY hR c _ k ((id, k) :: X) r s h ai W hcc hdy hr st (fun s h ai W hh st => hk s h ai W hh st) (fun id' s h ai W hh st => ?_) (fun s h ai W hh st => hrr s h ai W hh st))
   simp only [xfind] at hh
   simp only [Exit.inBlock]
   cases hb : Nat.beq id id' <;> rw [hb] at hh <;> simp only [xfB] at hh
   ·rw [if_neg (fun e => by subst e; simp at hb)]
    exact hX id' s h ai W hh st
   ·rw [if_pos (Nat.eq_of_beq_eq_true hb).symm]; exact hk s h ai W hh st
 | .loop c, Q, k, X, r, s, h, ai, W, hcc, hdy, hr, st, hk, hX, hrr => by
   simp only [comp, runI] at hr
   simp only [comp, ccB] at hcc
   simp only [dynOK] at hdy
   cases X with
   | nil => simp only [onL] at hr
   | cons x X' =>
     obtain ⟨id, k'⟩ := x
     simp only [onL] at hr
     generalize Γ.iinv id s h = L at hr
     obtain ⟨h1, h3⟩ := hr
     have h3 := finB_ok h3
     have h0 : (∃ x, L.pre x ∧ Iz B a l K R Ni (L.inv x).1 (L.inv x).2 ai W) ∨ c.wpIn (Fw none) n P (Exit.then (fun ai W => ∃ x, L.pre x ∧ Iz B a l K R Ni (L.inv x).1 (L.inv x).2 ai W) Q) ai W := by
      cases hpl : L.peel with
      | false =>
        rw [hpl] at h1
        simp only [peelB, startK] at h1
        exact .inl ⟨L.x0, h1.2, st.fits hb0 h1.1⟩
      | true =>
        rw [hpl] at h1
        simp only [peelB] at h1
        refine .inr (runI_ok hti hsp hm hb0 htn hsz hlB hKB hnr hps hY hR c _ _ _ r _ _ ai W hcc hdy h1 st (fun s h ai W hh st => ?_) (fun id s h ai W hh st => hX id s h ai W hh st) (fun s h ai W hh st => hrr s h ai W hh st))
        obtain ⟨x', q1, q3⟩ := hh
        exact ⟨x', q1, st.fits hb0 q3⟩
     refine loop_rule (fun x ai W => L.pre x ∧ Iz B a l K R Ni (L.inv x).1 (L.inv x).2 ai W) L.mu h0 fun x ai W hx => ?_
     obtain ⟨hp, st'⟩ := hx
     refine runI_ok hti hsp hm hb0 htn hsz hlB hKB hnr hps hY hR c _ _ _ r _ _ ai W hcc hdy (h3 x hp) st' (fun s h ai W hh st => ?_) (fun id s h ai W hh st => hX id s h ai W hh st) (fun s h ai W hh st => hrr s h ai W hh st)
     obtain ⟨x', q1, q2, q3⟩ := hh
     exact ⟨x', ⟨q1, st.fits hb0 q3⟩, q2⟩
 | .rangeFunc f ps x y, Q, k, X, r, s, h, ai, W, _, _, hr, st, hk, hX, hrr => by simp only [comp, runI] at hr
 | .scope _, Q, k, X, r, s, h, ai, W, _, _, hr, st, _, _, _ => by simp only [comp, runI] at hr
 | .label _, Q, k, X, r, s, h, ai, W, _, _, hr, st, _, _, _ => by simp only [comp, runI] at hr
 | .goto _, Q, k, X, r, s, h, ai, W, _, _, hr, st, _, _, _ => by simp only [comp, runI] at hr
 | .refuse _, Q, k, X, r, s, h, ai, W, _, _, hr, st, _, _, _ => by simp only [comp, runI] at hr

def ITok (P : Program) (ti : Nat → TInf) (F : Nat) (it : IT) : Prop := ∃ fn c muI puresI, P.funcs[F]? = some fn ∧ fn.body = some c ∧ comp ti muI puresI it.N c = it.c ∧ fn.ntmps = it.N ∧ fn.results = #[] ∧ ccB it.N it.c = true ∧ dynOK c = true ∧
 ∀ args w, (callFunc F args).run P w = .ok (.enter F args) w

theorem ext_guard {B B' : Base} {D D' : List Deferred} (hx : Ext B D B' D') {Dd : Nat} {w W : World} {E' : Env} {h' : List AO} (hBw : B'.w0.heap.size ≤ w.heap.size) (hBs : B.w0.heap.size ≤ w.heap.size) (hD : w.heap.size ≤ Dd) (m : Mem B' E' h' W) (hK : W.heap[Dd]? = some (.deferred (some [])))
  (hback : ∀ E2 h2 w2, Mem ⟨W, B'.E0, fun b => b ≠ Dd ∧ (B'.w0.heap.size ≤ b ∨ B'.M b), B'.X⟩ E2 h2 w2 → Mem B' E2 h2 w2) : Ext B D ⟨W, B'.E0, fun b => b ≠ Dd ∧ (B'.w0.heap.size ≤ b ∨ B'.M b), B'.X⟩ (mark Dd :: D') := by
 obtain ⟨ds, e, nd, hds⟩ := hx.d
 refine ⟨fun E2 h2 w2 m2 => hx.mem _ _ _ (hback _ _ _ m2), hx.e0, hx.x, Dd :: ds, by rw [e]; rfl, List.nodup_cons.2 ⟨fun hm => ?_, nd⟩, fun d hd => ?_⟩
 ·have := (hds _ hm).2.1; omega
 ·rcases List.mem_cons.1 hd with rfl | hd
  ·exact ⟨by omega, (Array.getElem?_eq_some_iff.1 hK).1, fun hh => hh.1 rfl, hK⟩
  ·obtain ⟨d1, d2, d3, d4⟩ := hds d hd
   refine ⟨d1, by have := m.size; show d < W.heap.size; omega, fun hh => ?_, (m.keeps d d2 d3).trans d4⟩
   rcases hh.2 with h1 | h1
   ·omega
   ·exact d3 h1

theorem rangeI_ok {D : List Deferred} (hBX : B.X = noX) (hti : TIok P ti) (hsp : SpOK P Γ.sp) (hm : P.follows .mixedOrders = true) (hb0 : ∀ i, Γ.k0 ≤ i → B.E0.ι i = none) (htn : Γ.tn ≤ N) {F : Nat} {it : IT} (hit : ITok P ti F it) {cap : List AV}
  {f : Operand} {ps : Array Tmp} {x y : Code} {Q : Exit → Act → World → Prop} {k r : KT} {s : SL} (hnr : noR (comp ti mu pures N x) = true ∧ noR (comp ti mu pures N y) = true)
  (hr : onI Γ it cap ps.toList (fun k r => run Γ (comp ti mu pures N x) k [] r) (fun k r => run Γ (comp ti mu pures N y) k [] r) k r s h) (hv : xv (look s) (xof f) = .fn F cap)
  (st : Sx B N D s h a w) (hk : ∀ s h a w, k s h → Sx B N D s h a w → Q .normal a w) (hrr : ∀ s h a w, r s h → Sx B N D s h a w → Q .ret a w) : (Code.rangeFunc f ps x y).wpIn (Fw none) n P Q a w := by
 obtain ⟨B', D', E, hx, st⟩ := st
 have hBX' : B'.X = noX := hx.x.trans hBX
 obtain ⟨fn, c, muI, puresI, f1, f2, f3, f4, f5, f6, f7, f8⟩ := hit
 obtain ⟨⟨hps, hcl⟩, hrun⟩ := hr
 have hcl : llen cap < it.N := by simpa using hcl
 rw [llen_eq] at hcl
 have hfv := rel_x (st.all hBX') f
 rw [hv] at hfv
 simp only [rel] at hfv
 obtain ⟨lb, hfv, hcap⟩ := hfv
 have hlb := relL_length hcap
 have hlb : lb.size = cap.length := by simpa using hlb
 refine wpIn_rangeFunc ?_
 intro fnc hfnc
 obtain ⟨W1, hW1⟩ : ∃ W1, (w.alloc (.deferred (some []))).alloc (.loop (recd fnc a ps x y w.heap.size false)) = W1 := ⟨_, rfl⟩
 have hL1 : W1.heap[w.heap.size + 1]? = some (.loop (recd fnc a ps x y w.heap.size false)) := by
  rw [← hW1]; have := World.alloc_heap_new (w.alloc (.deferred (some []))) (.loop (recd fnc a ps x y w.heap.size false)); rwa [World.size_alloc] at this
 have hK1 : W1.heap[w.heap.size]? = some (.deferred (some [])) := by
  rw [← hW1]; exact (Below.heap_alloc _ _ _ (by simp)).trans (World.alloc_heap_new w _)
 have hBw : B'.w0.heap.size ≤ w.heap.size := st.mem.size
 have hBs : B.w0.heap.size ≤ w.heap.size := (hx.mem _ _ _ st.mem).size
 have m1 : Mem B' E h W1 := by
  rw [← hW1]
  exact (st.mem.turn (World.grownBy_alloc w _ none) (fun r e => by cases e)).turn (World.grownBy_alloc _ _ none) (fun r e => by cases e)
 refine ⟨w.heap.size + 1, [{ target := .collected w.heap.size, args := #[] }], W1, { target := .fn (.func F) lb, args := #[.func (.yield (w.heap.size + 1)) #[] #[]] }, W1, F,
  #[.func (.yield (w.heap.size + 1)) #[] #[]] ++ lb, W1, ?_, ?_, ?_, ?_, fun hh => (by rw [Fw_depth] at hh; cases hh), ?_⟩
 ·rw [Fw_round, ← hW1]; exact run_enterLoop_outer _ _ _ _ _
 ·simp only [resolve, hfv]
  simp [go_sem]
 ·intro f' hf'; exact Fw_fn
 ·simp [invoke, go_sem, f8]
 ·refine callsIn_any (n := 0) (callsIn_of_wp_marks f1 f2 Fw_fn ?_ (hro := rfl))
  have hne : w.heap.size ≠ w.heap.size + 1 := by omega
  obtain ⟨g1, g2⟩ := m1.guard2 (l := w.heap.size + 1) (K := w.heap.size) (by omega) hBw hL1 rfl hK1 rfl (Xc false it.N a)
  have hargs : relL E (.yl (w.heap.size + 1) :: cap) (#[Value.func (.yield (w.heap.size + 1)) #[] #[]] ++ lb).toList := by
   simp only [Array.toList_append, List.cons_append, List.nil_append, relL]
   exact ⟨_, _, rfl, by simp only [rel], hcap⟩
  have hasz : (#[Value.func (.yield (w.heap.size + 1)) #[] #[]] ++ lb).size ≤ it.N := by simp; omega
  have st0 : Iz B' a (w.heap.size + 1) w.heap.size (recd fnc a ps x y w.heap.size) it.N ((0, .yl (w.heap.size + 1)) :: appS (argS 1 cap) ((it.N, .bool false) :: shS (it.N + 1) s)) h
    { tmps := (#[Value.func (.yield (w.heap.size + 1)) #[] #[]] ++ lb) ++ Array.replicate (fn.ntmps - (#[Value.func (.yield (w.heap.size + 1)) #[] #[]] ++ lb).size) undef, defers := [] } W1 := by
   refine ⟨W1, E, false, g2, hK1, hL1, g1, fun k v hv => ?_, ?_, rfl⟩
   ·have hlook := look_appS (argS 0 (.yl (w.heap.size + 1) :: cap)) ((it.N, .bool false) :: shS (it.N + 1) s) k
    have hlook : look ((0, .yl (w.heap.size + 1)) :: appS (argS 1 cap) ((it.N, .bool false) :: shS (it.N + 1) s)) k = look (argS 0 (.yl (w.heap.size + 1) :: cap)) k ∨ _ := hlook
    unfold tv at hv
    by_cases hlt : k < it.N
    ·rw [if_pos hlt] at hv
     cases hv
     rcases hlook with e | ⟨_, e⟩
     ·have := argS_look (E := E) (i := 0) (vs := (#[Value.func (.yield (w.heap.size + 1)) #[] #[]] ++ lb).toList) (l := .yl (w.heap.size + 1) :: cap) (by simpa using hargs) k
      rw [e]
      have e2 : ((#[Value.func (.yield (w.heap.size + 1)) #[] #[]] ++ lb) ++ Array.replicate (fn.ntmps - (#[Value.func (.yield (w.heap.size + 1)) #[] #[]] ++ lb).size) undef).getD k undef = (#[Value.func (.yield (w.heap.size + 1)) #[] #[]] ++ lb).getD k undef := by
       generalize (#[Value.func (.yield (w.heap.size + 1)) #[] #[]] ++ lb) = vs
       simp only [Array.getD_eq_getD_getElem?, Array.getElem?_append]
       split
       ·rfl
       ·rename_i hk
        have h0 : vs[k]? = none := Array.getElem?_eq_none_iff.2 (by omega)
        rw [h0, Array.getElem?_replicate]
        split <;> rfl
      simp only at e2 ⊢
      rw [e2]
      rw [Array.toArray_toList] at this
      exact this
     ·have e : look ((0, .yl (w.heap.size + 1)) :: appS (argS 1 cap) ((it.N, .bool false) :: shS (it.N + 1) s)) k = _ := e
      rw [e]
      simp only [look_cons]
      have : Nat.beq it.N k = false := by
       cases h2 : Nat.beq it.N k with
       | false => rfl
       | true => have := Nat.eq_of_beq_eq_true h2; omega
      rw [this, look_shS_lt _ _ _ (by omega)]
      simp only [rel]
    ·rw [if_neg hlt] at hv
     rcases hlook with e | ⟨_, e⟩
     ·rw [e, look_argS_out _ _ _ (.inr (by simp; omega))]
      simp only [rel]
     ·have e : look ((0, .yl (w.heap.size + 1)) :: appS (argS 1 cap) ((it.N, .bool false) :: shS (it.N + 1) s)) k = _ := e
      rw [e]
      simp only [look_cons]
      have hv : Xc false it.N a k = some v := hv
      unfold Xc at hv
      by_cases hk : k = it.N
      ·subst hk
       rw [if_pos rfl] at hv; cases hv
       simp only [Nat.beq_refl, rel]
      ·rw [if_neg hk] at hv; cases hv
       have : Nat.beq it.N k = false := by
        cases h2 : Nat.beq it.N k with
        | false => rfl
        | true => have := Nat.eq_of_beq_eq_true h2; omega
       rw [this]
       obtain ⟨j, rfl⟩ : ∃ j, k = j + (it.N + 1) := ⟨k - (it.N + 1), by omega⟩
       rw [look_shS, Nat.add_sub_cancel]
       exact st.all hBX' j
   ·simp only [Array.size_append, Array.size_replicate, f4]
    simp only [Array.size_append] at hasz
    omega
  have hend : ∀ (s1 : SL) (h1 : List AO) (ai : Act) (W : World), finI it.N k r s1 h1 → Iz B' a (w.heap.size + 1) w.heap.size (recd fnc a ps x y w.heap.size) it.N s1 h1 ai W →
    LeavesInM (Fw none) 0 P fn ai.tmps (rangePost (Fw none) n P (w.heap.size + 1) Q { a with defers := [{ target := .collected w.heap.size, args := #[] }] ++ a.defers }) ai.defers .returning W := fun s1 h1 ai W hf q => by
   obtain ⟨W0, E1, m, q⟩ := q
   rw [q.st.defers]
   refine ⟨.tuple #[], results_none f5 _ _ _, ?_⟩
   have hl := q.rcd
   have hK := q.defd
   have mB := q.back _ _ _ q.st.mem
   have mB2 := mB.turn (grownBy_putObj' W (w.heap.size + 1) (.loop { recd fnc a ps x y w.heap.size m with state := .exhausted })) fun r e => by cases e; exact ⟨by omega, _, hl, rfl⟩
   have hK2 : (W.putObj (w.heap.size + 1) (.loop { recd fnc a ps x y w.heap.size m with state := .exhausted })).heap[w.heap.size]? = some (.deferred (some [])) := (World.putObj_heap_other (by omega)).trans hK
   have hend := run_endLoop (P := P) hl (by cases m <;> simp [recd])
   obtain ⟨j1, j2⟩ := mB2.guard hBw hK2 rfl
   have sx : Sx B N D (unS (it.N + 1) s1) h1 { a with defers := [{ target := .collected w.heap.size, args := #[] }] ++ a.defers } (W.putObj (w.heap.size + 1) (.loop { recd fnc a ps x y w.heap.size m with state := .exhausted })) := by
    refine ⟨_, mark w.heap.size :: D', E1, ext_guard hx hBw hBs (Nat.le_refl _) mB2 hK2 j2, .of j1 q.outer st.size ?_ hBX'⟩
    rw [← st.defers]; rfl
   unfold finI finM at hf
   split at hf
   ·rename_i hmode
    have := q.mode hmode
    subst this
    exact ⟨_, _, hend, wpIn_ret (hrr _ _ _ _ hf sx)⟩
   ·rename_i hmode
    have := q.mode hmode
    subst this
    exact ⟨_, _, hend, hk _ _ _ _ hf sx⟩
   ·exact hf.elim
  have hrun := hrun (w.heap.size + 1)
  rw [← f3] at hrun f6
  exact runI_ok (B := B') (a := a) hti hsp hm (by rw [hx.e0]; exact hb0) htn st.size (by omega) hBw hnr hps rfl rfl c _ _ _ _ _ _ _ _ f6 f7 hrun st0 (fun s1 h1 ai W hf q => hend s1 h1 ai W hf q) (fun id s1 h1 ai W hf q => hf.elim) (fun s1 h1 ai W hf q => hend s1 h1 ai W hf q)
end
open Go.RowKit
section
variable {P : Program} {ti : Nat → TInf} {B : Base} {E : Env} {h : List AO} {w : World} {a : Act} {N : Nat} {D : List Deferred} {mu pures : List Nat} {Γ : G} {n : Nat}
theorem run_ok (hBX : B.X = noX) (hti : TIok P ti) (hsp : SpOK P Γ.sp) (hm : P.follows .mixedOrders = true) (hb0 : ∀ i, Γ.k0 ≤ i → B.E0.ι i = none) (htn : Γ.tn ≤ N) (hrf : ∀ F, rfind Γ.rf F = true → FdIter P F ∧ ∀ args w, (callFunc F args).run P w = .ok (.enter F args) w) (hit : ∀ F it, ifind Γ.its F = some it → ITok P ti F it) :
  ∀ (c : Code) (Q : Exit → Act → World → Prop) (k : KT) (X : List (Nat × KT)) (r : KT) (s : SL) (h : List AO) (a : Act) (w : World),
  run Γ (comp ti mu pures N c) k X r s h → Sx B N D s h a w → (∀ s h a w, k s h → Sx B N D s h a w → Q .normal a w) → (∀ id s h a w, xfind X id s h → Sx B N D s h a w → Q (.exit id) a w) →
  (∀ s h a w, r s h → Sx B N D s h a w → Q .ret a w) → c.wpIn (Fw none) n P Q a w
 | .skip, Q, k, X, r, s, h, a, w, hr, st, hk, _, _ => by
   simp only [comp, run] at hr
   exact wpIn_skip (hk _ _ _ _ hr st)
 | .ret, Q, k, X, r, s, h, a, w, hr, st, _, _, hrr => by
   simp only [comp, run] at hr
   exact wpIn_ret (hrr _ _ _ _ hr st)
 | .exit id, Q, k, X, r, s, h, a, w, hr, st, _, hX, _ => by
   simp only [comp, run] at hr
   exact wpIn_exit (hX _ _ _ _ _ hr st)
 | .region id ops draw, Q, k, X, r, s, h, a, w, hr, st, hk, _, _ => by
   simp only [comp] at hr
   split at hr
   ·rename_i l hl
    have hlen := (compOps_get hl).1
    have main : ∀ {cf : List (Nat × Nat)}, (draw = true → orderOK ops l cf = true) → runOps Γ.sp Γ.keep cf l k s h → (Code.region id ops draw).wpIn (Fw none) n P Q a w := fun {cf} hok hr => by
     obtain ⟨s', h', q1, q2, q3⟩ := runOps_ok l s h hr
     obtain ⟨B', D', E, hx, st⟩ := st
     refine region_ok hti hsp hm hl (fun _ _ => .inl (hx.x.trans hBX)) hok st (gF := look s') (hF := h') ?_ q3 fun E' a' w' st' => hk _ _ a' w' q2 ⟨B', D', E', hx, st'.weaken (look_trim _ _)⟩
     have := range_afold (sp := Γ.sp) (cs := l) ops.size 0 (look s, h) (by rw [hlen]; simp)
     rw [List.range_eq_range', this]
     simpa using q1
    cases draw with
    | false =>
      simp only [run] at hr
      exact main (fun e => by cases e) hr
    | true =>
      simp only at hr
      split at hr
      ·rename_i hok
       simp only [run] at hr
       exact main (fun _ => hok) hr
      ·unfold altC at hr
       split at hr
       ·rename_i halt
        simp only [run] at hr
        obtain ⟨hr1, hr2⟩ := hr
        obtain ⟨s1, h1, q1, q2, q3⟩ := runOps_ok l s h hr1
        obtain ⟨B', D', E, hx, st⟩ := st
        refine region_alt_ok hti hsp hm hl (fun _ _ => .inl (hx.x.trans hBX)) halt st (gF := look s1) (hF := h1) ?_ q3 (fun E' a' w' st' => hk _ _ a' w' q2 ⟨B', D', E', hx, st'.weaken (look_trim _ _)⟩) fun c hc => ?_
        ·have := range_afold (sp := Γ.sp) (cs := l) ops.size 0 (look s, h) (by rw [hlen]; simp)
         rw [List.range_eq_range', this]
         simpa using q1
        ·obtain ⟨s2, h2, p1, p2, p3⟩ := runOps_ok _ s h (allR_mem hr2 _ (List.mem_map.2 ⟨c, hc, rfl⟩))
         refine ⟨look s2, h2, ?_, p3, fun E' a' w' st' => hk _ _ a' w' p2 ⟨B', D', E', hx, st'.weaken (look_trim _ _)⟩⟩
         have := range_afold (sp := Γ.sp) (cs := permC c (altJ l) l) ops.size 0 (look s, h) (by rw [permC_len, hlen]; simp)
         rw [List.range_eq_range', this]
         simpa using p1
       ·simp only [run] at hr
   ·simp only [run] at hr
 | .seq x y, Q, k, X, r, s, h, a, w, hr, st, hk, hX, hrr => by
   simp only [comp, run] at hr
   refine wpIn_seq (run_ok hBX hti hsp hm hb0 htn hrf hit x _ _ X r s h a w hr st (fun s h a w hh st => ?_) (fun id s h a w hh st => hX id s h a w hh st) (fun s h a w hh st => hrr s h a w hh st))
   exact run_ok hBX hti hsp hm hb0 htn hrf hit y Q k X r s h a w hh st hk hX hrr
 | .cond x c d, Q, k, X, r, s, h, a, w, hr, st, hk, hX, hrr => by
   simp only [comp, run] at hr
   obtain ⟨B', D', E, hxt, st'⟩ := id st
   have hx := rel_x (st'.all (hxt.x.trans hBX)) x
   cases hp : xv (look s) (xof x) <;> rw [hp] at hr hx <;> simp only [onB] at hr
   rename_i p
   simp only [rel] at hx
   refine wpIn_cond hx ?_
   cases p
   ·exact run_ok hBX hti hsp hm hb0 htn hrf hit d Q k X r s h a w hr st hk hX hrr
   ·exact run_ok hBX hti hsp hm hb0 htn hrf hit c Q k X r s h a w hr st hk hX hrr
 | .block id c, Q, k, X, r, s, h, a, w, hr, st, hk, hX, hrr => by
   simp only [comp, run] at hr
   refine wpIn_block (run_ok hBX hti hsp hm hb0 htn hrf hit c _ k ((id, k) :: X) r s h a w hr st (fun s h a w hh st => hk s h a w hh st) (fun id' s h a w hh st => ?_) (fun s h a w hh st => hrr s h a w hh st))
   simp only [xfind] at hh
   simp only [Exit.inBlock]
   cases hb : Nat.beq id id' <;> rw [hb] at hh <;> simp only [xfB] at hh
   ·rw [if_neg (fun e => by subst e; simp at hb)]
    exact hX id' s h a w hh st
   ·rw [if_pos (Nat.eq_of_beq_eq_true hb).symm]; exact hk s h a w hh st
 | .loop c, Q, k, X, r, s, h, a, w, hr, st, hk, hX, hrr => by
   simp only [comp, run] at hr
   cases X with
   | nil => simp only [onL] at hr
   | cons x X' =>
     obtain ⟨id, k'⟩ := x
     simp only [onL] at hr
     generalize Γ.inv id s h = L at hr
     obtain ⟨h1, h3⟩ := hr
     have h3 := finB_ok h3
     have h0 : (∃ x, L.pre x ∧ Sx B N D (L.inv x).1 (L.inv x).2 a w) ∨ c.wpIn (Fw none) n P (Exit.then (fun a w => ∃ x, L.pre x ∧ Sx B N D (L.inv x).1 (L.inv x).2 a w) Q) a w := by
      cases hpl : L.peel with
      | false =>
        rw [hpl] at h1
        simp only [peelB, startK] at h1
        exact .inl ⟨L.x0, h1.2, st.fits hb0 h1.1⟩
      | true =>
        rw [hpl] at h1
        simp only [peelB] at h1
        refine .inr (run_ok hBX hti hsp hm hb0 htn hrf hit c _ _ _ r _ _ a w h1 st (fun s h a w hh st => ?_) (fun id s h a w hh st => hX id s h a w hh st) (fun s h a w hh st => hrr s h a w hh st))
        obtain ⟨x', q1, q3⟩ := hh
        exact ⟨x', q1, st.fits hb0 q3⟩
     refine loop_rule (fun x a w => L.pre x ∧ Sx B N D (L.inv x).1 (L.inv x).2 a w) L.mu h0 fun x a w hx => ?_
     obtain ⟨hp, st'⟩ := hx
     refine run_ok hBX hti hsp hm hb0 htn hrf hit c _ _ _ r _ _ a w (h3 x hp) st' (fun s h a w hh st => ?_) (fun id s h a w hh st => hX id s h a w hh st) (fun s h a w hh st => hrr s h a w hh st)
     obtain ⟨x', q1, q2, q3⟩ := hh
     exact ⟨x', ⟨q1, st.fits hb0 q3⟩, q2⟩
 | .rangeFunc f ps x y, Q, k, X, r, s, h, a, w, hr, st, hk, hX, hrr => by
   simp only [comp, run] at hr
   unfold onRI at hr
   split at hr
   ·rename_i F cap hv
    unfold onIo at hr
    split at hr
    ·exact range_ok hBX hti hsp hm hb0 htn hrf hr st (fun s h a w hh st => hk s h a w hh st) (fun s h a w hh st => hrr s h a w hh st)
    ·rename_i it hf
     split at hr
     ·rename_i hok
      have hnr : noR (comp ti mu pures N x) = true ∧ noR (comp ti mu pures N y) = true := by
       split at hok
       ·rename_i h1; exact ⟨h1, hok⟩
       ·cases hok
      exact rangeI_ok hBX hti hsp hm hb0 htn (hit _ _ hf) hnr hr hv st (fun s h a w hh st => hk s h a w hh st) (fun s h a w hh st => hrr s h a w hh st)
     ·exact hr.elim
   ·exact hr.elim
 | .scope _, Q, k, X, r, s, h, a, w, hr, st, _, _, _ => by simp only [comp, run] at hr
 | .label _, Q, k, X, r, s, h, a, w, hr, st, _, _, _ => by simp only [comp, run] at hr
 | .goto _, Q, k, X, r, s, h, a, w, hr, st, _, _, _ => by simp only [comp, run] at hr
 | .refuse _, Q, k, X, r, s, h, a, w, hr, st, _, _, _ => by simp only [comp, run] at hr

end
open Go.RowKit
section
variable {P : Program} {ti : Nat → TInf} {B : Base} {E : Env} {h : List AO} {w : World} {a : Act} {N : Nat} {D : List Deferred} {mu pures : List Nat} {sp : Sp}

def rvOf (ti : Nat → TInf) : ResultVar → RV
 | .tmp t => .t t
 | .cell a T => .c a (lsz (ti T))
def rvOK (ti : Nat → TInf) : List ResultVar → Bool
 | [] => true
 | .tmp _ :: r => rvOK ti r
 | .cell _ T :: r => match (ti T).d with | .other => false | _ => rvOK ti r

def resOne (tmps : Array Value) : ResultVar → Sem Value
 | .tmp t => pure (tmps.getD t undef)
 | .cell a t => do loadVar t (← asAddr (tmps.getD a undef))

theorem resv_ok (m : Mem B E h w) (hti : TIok P ti) {s : SL} (hs : ∀ k, rel E (look s k) (a.tmps.getD k undef)) : ∀ (rs : List ResultVar), rvOK ti rs = true → ∀ {C : Option Prop} {l : List AV}, resv sp s h (rs.map (rvOf ti)) = some (C, l) → holds C →
  ∃ vs, (rs.mapM (resOne a.tmps)).run P w = .ok vs w ∧ relL E l vs
 | [], _, C, l, hr, hC => by
   simp only [List.map_nil, resv, Option.some.injEq, Prod.mk.injEq] at hr
   obtain ⟨rfl, rfl⟩ := hr
   exact ⟨[], by simp, by simp only [relL]⟩
 | .tmp t :: rs, hok, C, l, hr, hC => by
   simp only [List.map_cons, rvOf, resv] at hr
   split at hr
   ·rename_i C' l' hr'
    cases hr
    obtain ⟨vs, h1, h2⟩ := resv_ok m hti hs rs (by simpa only [rvOK] using hok) hr' hC
    refine ⟨a.tmps.getD t undef :: vs, ?_, by simp only [relL]; exact ⟨_, _, rfl, hs t, h2⟩⟩
    simp [List.mapM_cons, resOne, h1]
   ·cases hr
 | .cell p T :: rs, hok, C, l, hr, hC => by
   simp only [rvOK] at hok
   split at hok
   ·cases hok
   ·rename_i hd
    simp only [List.map_cons, rvOf, resv] at hr
    split at hr
    ·rename_i D' A hev
     split at hr
     ·rename_i C' l' hr'
      cases hr
      obtain ⟨c1, c2⟩ := holds_both.1 hC
      obtain ⟨vs, h1, h2⟩ := resv_ok m hti hs rs hok hr' c2
      have e1 : ev sp (look s) h (.load (lsz (ti T)) (.t p)) = ev sp (look s) h (.load (lsz (ti T)) (.c (look s p))) := by cases lsz (ti T) <;> rfl
      obtain ⟨r, k1, k2⟩ := load_ok (P := P) (T := T) m hti (fun hh => hd hh) (hs p) (e1 ▸ hev) c1
      refine ⟨r :: vs, ?_, by simp only [relL]; exact ⟨_, _, rfl, k2, h2⟩⟩
      have hptr : ∃ ad, a.tmps.getD p undef = .pointer (some ad) := by
       have hp := hs p
       cases hl : look s p <;> rw [hl] at hp e1 <;> rw [e1] at hev <;> (cases hz : lsz (ti T) <;> rw [hz] at hev <;> simp only [ev, xv, reduceCtorEq] at hev) <;> simp only [rel] at hp
       all_goals first | (obtain ⟨_, _, ⟨ad, hp⟩, _⟩ := hp; exact ⟨ad, hp⟩) | (obtain ⟨_, _, _, hp, _⟩ := hp; exact ⟨_, hp⟩) | (obtain ⟨_, _, hp, _⟩ := hp; exact ⟨_, hp⟩)
      obtain ⟨ad, had⟩ := hptr
      rw [had] at k1
      simp only [Instr.loadAt, Instr.sureAddr, Sem.run_bind, Sem.run_pure, Result.andThen_ok] at k1
      simp [List.mapM_cons, resOne, had, asAddr, k1, h1]
     ·cases hr
    ·cases hr

theorem results_list {fn : Func} {rs : List ResultVar} (hr : fn.results = rs.toArray) (tmps : Array Value) : results fn tmps = (do
  let vs ← rs.mapM (resOne tmps)
  pure (if h : vs.toArray.size = 1 then vs.toArray[0] else .tuple vs.toArray)) := by
 unfold results
 rw [hr]
 change (do let vs ← rs.toArray.mapM (resOne tmps); pure (if h : vs.size = 1 then vs[0] else .tuple vs)) = _
 rw [List.mapM_toArray, map_eq_pure_bind]
 simp

theorem rel_one {l : List AV} {vs : List Value} (hl : relL E l vs) : rel E (one l) (if h : vs.toArray.size = 1 then vs.toArray[0] else .tuple vs.toArray) := by
 have hlen := relL_length hl
 match l, hl with
 | [], hl => simp only [relL] at hl; subst hl; simp only [one, rel]; exact ⟨#[], rfl, by simp only [relL]⟩
 | [x], hl =>
   simp only [relL] at hl
   obtain ⟨u, us, rfl, h1, rfl⟩ := hl
   simpa [one] using h1
 | x :: y :: l, hl =>
   have : ¬ vs.toArray.size = 1 := by simp at hlen ⊢; omega
   rw [dif_neg this]
   simp only [one, rel]
   exact ⟨_, rfl, by simpa using hl⟩

theorem belowL_relL {k : Nat} {l : List AV} {vs : List Value} (hb : belowL k l = true) (r : relL E l vs) : relL (E.cut k) l vs := relL_cut _ _ hb r

theorem frzR_ok : ∀ (n : Nat) {E : Env} {h : List AO} {C : Option Prop} {h' : List AO}, Mem B E h w → frzR n h = some (C, h') → holds C → ∃ E', E.le E' ∧ Mem B E' h' w
 | 0, E, h, C, h', m, hf, _ => by cases hf; exact ⟨E, Env.le.refl E, m⟩
 | i + 1, E, h, C, h', m, hf, hC => by
   simp only [frzR] at hf
   split at hf
   ·rename_i C1 h1 h2
    split at hf
    ·rename_i C2 h3 h4
     cases hf
     obtain ⟨c1, c2⟩ := holds_both.1 hC
     obtain ⟨E1, le1, m1⟩ := frzI_ok m h2 c1
     obtain ⟨E2, le2, m2⟩ := frzR_ok i m1 h4 c2
     exact ⟨E2, le1.trans le2, m2⟩
    ·cases hf
   ·cases hf

theorem leaf_ok (hBX : B.X = noX) (hti : TIok P ti) {fn : Func} {rs : List ResultVar} (hr : fn.results = rs.toArray) (hrv : rvOK ti rs = true) {own : Bool} {kn k0 : Nat} (hkn : k0 ≤ kn) (hb0 : ∀ i, k0 ≤ i → B.E0.ι i = none) {K : AV → List AO → Prop} {s : SL}
  (hl : leafK sp (rs.map (rvOf ti)) own kn K s h) (st : St B N D E (look s) h a w) :
  ∃ v r h' E', (results fn a.tmps).run P w = .ok v w ∧ K r h' ∧ Mem B E' h' w ∧ rel E' r v ∧ h'.length = kn := by
 unfold leafK at hl
 split at hl
 ·rename_i C l hrs
  split at hl
  ·rename_i D' l' h1 hfz
   have main : holds C → holds D' → ∃ vs E1, (results fn a.tmps).run P w = .ok (if h : vs.toArray.size = 1 then vs.toArray[0] else .tuple vs.toArray) w ∧ Mem B E1 h1 w ∧ relL E1 l' vs := fun hC hD => by
    obtain ⟨vs, k1, k2⟩ := resv_ok st.mem hti (st.all hBX) rs hrv hrs hC
    have hrun : (results fn a.tmps).run P w = .ok (if h : vs.toArray.size = 1 then vs.toArray[0] else .tuple vs.toArray) w := by
     rw [results_list hr]; simp only [Sem.run_bind, k1, Result.andThen_ok, Sem.run_pure]
    cases own with
    | true => cases hfz; exact ⟨vs, E, hrun, st.mem, k2⟩
    | false =>
      simp only [ownF] at hfz
      split at hfz
      ·rename_i D1 l1 h2 hz1
       split at hfz
       ·rename_i D2 h3 hz2
        cases hfz
        obtain ⟨d1, d2⟩ := holds_both.1 hD
        obtain ⟨E1, _, q2, q3⟩ := frzL_ok l h E st.mem hz1 d1 vs k2
        obtain ⟨E2, le2, m2⟩ := frzR_ok kn q2 hz2 d2
        exact ⟨vs, E2, hrun, m2, relL.mono le2 _ _ q3⟩
       ·cases hfz
      ·cases hfz
   split at hl
   ·rename_i hb
    obtain ⟨hC, hl⟩ := conj_iff.1 hl
    obtain ⟨hD, hl⟩ := conj_iff.1 hl
    obtain ⟨vs, E1, q1, q2, q3⟩ := main hC hD
    exact ⟨_, _, h1, E1, q1, hl, q2, rel_one q3, by rw [← hlen_eq]; exact Nat.eq_of_beq_eq_true hb⟩
   ·obtain ⟨hC, hl⟩ := conj_iff.1 hl
    obtain ⟨hD, hl⟩ := conj_iff.1 hl
    obtain ⟨b1, b2, b3, hl⟩ := hl
    obtain ⟨vs, E1, q1, q2, q3⟩ := main hC hD
    rw [htake_eq] at b1 hl
    rw [hlen_eq] at b3
    exact ⟨_, _, _, _, q1, hl, q2.drop b1 (fun i hi => hb0 i (by omega)), rel_one (belowL_relL b2 q3), by simp; omega⟩
  ·exact hl.elim
 ·exact hl.elim

theorem leaves_ok (hBX : B.X = noX) (hti : TIok P ti) {fn : Func} {rs : List ResultVar} (hr : fn.results = rs.toArray) (hrv : rvOK ti rs = true) {own : Bool} {kn k0 : Nat} (hkn : k0 ≤ kn) (hb0 : ∀ i, k0 ≤ i → B.E0.ι i = none) {K : AV → List AO → Prop} {s : SL} {R : Ending → World → Prop} {n : Nat}
  (hl : leafK sp (rs.map (rvOf ti)) own kn K s h) (hR : ∀ v r h' E' w', K r h' → Mem B E' h' w' → rel E' r v → h'.length = kn → R (.returned v) w') (hslots : ∀ k, rel E (look s k) (a.tmps.getD k undef)) (hsz : a.tmps.size = N) :
  ∀ (ds : List Nat) (w : World), ds.Nodup → (∀ d ∈ ds, B.w0.heap.size ≤ d ∧ w.heap[d]? = some (.deferred (some []))) → Mem B E h w → LeavesInM (Fw none) n P fn a.tmps R (ds.map mark) .returning w
 | [], w, _, _, m => by
   obtain ⟨v, r, h', E', q1, q2, q3, q4, q5⟩ := leaf_ok (a := { tmps := a.tmps, defers := [] }) (N := N) hBX hti hr hrv hkn hb0 hl (.of m hslots hsz rfl hBX)
   exact ⟨v, q1, hR v r h' E' w q2 q3 q4 q5⟩
 | d :: ds, w, hnd, hds, m => by
   obtain ⟨h1, h2⟩ := hds d (by simp)
   have hnd' := List.nodup_cons.1 hnd
   refine ⟨by simp, .inl ⟨d, _, rfl, run_takeDeferred h2, leaves_ok hBX hti hr hrv hkn hb0 hl hR hslots hsz ds _ hnd'.2 (fun d' hd' => ⟨(hds d' (by simp [hd'])).1, ?_⟩) (m.turn (grownBy_putObj' _ _ _) fun r e => by cases e; exact ⟨h1, _, h2, rfl⟩)⟩⟩
   rw [World.putObj_heap_other (fun e => by subst e; exact hnd'.1 hd')]
   exact (hds d' (by simp [hd'])).2

theorem acalls_of_run (hti : TIok P ti) {Γ : G} (hsp : SpOK P Γ.sp) (hm : P.follows .mixedOrders = true) {f : FuncId} {fn : Func} {c : Code} {rs : List ResultVar} (hf : P.funcs[f]? = some fn) (hb : fn.body = some c) (hr : fn.results = rs.toArray) (hrv : rvOK ti rs = true) (hN : fn.ntmps = N)
  {cc : CC} (hcc : comp ti mu pures N c = cc) {res : List RV} (hres : rs.map (rvOf ti) = res) {args : List AV} (hl : args.length ≤ N) (hk0 : Γ.k0 = hlen h) (htn : Γ.tn ≤ N) (hrf : ∀ F, rfind Γ.rf F = true → FdIter P F ∧ ∀ args w, (callFunc F args).run P w = .ok (.enter F args) w) (hit : ∀ F it, ifind Γ.its F = some it → ITok P ti F it) {own : Bool} {kn : Nat} (hkn : hlen h ≤ kn) {K : AV → List AO → Prop}
  (hrun : run Γ cc (leafK Γ.sp res own kn K) [] (leafK Γ.sp res own kn K) (argS 0 args) h) : ACalls P f args h K := by
 intro E w vs hvs m
 subst hcc hres
 have hlen := relL_length hvs
 have hb0 : ∀ i, Γ.k0 ≤ i → E.ι i = none := fun i hi => (m.fresh i (by rw [← hlen_eq, ← hk0]; exact hi)).1
 have hcalls : CallsIn Fence.wide 0 P f vs.toArray w (fun e w' => ∃ v r h' E', e = .returned v ∧ K r h' ∧ h.length ≤ h'.length ∧
   Mem ⟨w, E, fun b => (∃ i ob s, h[i]? = some ob ∧ ob.fz = false ∧ E.ι i = some (b, s) ∧ 0 < s) ∨ E.wl b ≠ 0, noX⟩ E' h' w' ∧ rel E' r v) := by
  refine callsIn_of_wp_marks hf hb trivial ?_ (hro := rfl)
  have st : St ⟨w, E, fun b => (∃ i ob s, h[i]? = some ob ∧ ob.fz = false ∧ E.ι i = some (b, s) ∧ 0 < s) ∨ E.wl b ≠ 0, noX⟩ N [] E (look (argS 0 args)) h { tmps := vs.toArray ++ Array.replicate (fn.ntmps - vs.toArray.size) undef, defers := [] } w := by
   refine .of m (fun k => ?_) (by simp; omega) rfl rfl
   have := argS_look (i := 0) (by simpa using hvs) k
   have e : (vs.toArray ++ Array.replicate (fn.ntmps - vs.toArray.size) undef).getD k undef = vs.toArray.getD k undef := by
    simp only [Array.getD_eq_getD_getElem?, Array.getElem?_append]
    split
    ·rfl
    ·rename_i hk
     have h0 : vs.toArray[k]? = none := Array.getElem?_eq_none_iff.2 (by omega)
     rw [h0, Array.getElem?_replicate]
     split <;> rfl
   rw [e]; exact this
  have fin : ∀ (s : SL) (h1 : List AO) (a : Act) (w1 : World), leafK Γ.sp (rs.map (rvOf ti)) own kn K s h1 → Sx ⟨w, E, fun b => (∃ i ob s, h[i]? = some ob ∧ ob.fz = false ∧ E.ι i = some (b, s) ∧ 0 < s) ∨ E.wl b ≠ 0, noX⟩ N [] s h1 a w1 →
    LeavesInM (Fw none) 0 P fn a.tmps (fun e w' => ∃ v r h' E', e = .returned v ∧ K r h' ∧ h.length ≤ h'.length ∧
     Mem ⟨w, E, fun b => (∃ i ob s, h[i]? = some ob ∧ ob.fz = false ∧ E.ι i = some (b, s) ∧ 0 < s) ∨ E.wl b ≠ 0, noX⟩ E' h' w' ∧ rel E' r v) a.defers .returning w1 := fun s h1 a w1 hlf st => by
   obtain ⟨B', D', E1, hx, st⟩ := st
   obtain ⟨ds, e, nd, hds⟩ := hx.d
   rw [st.defers, e, List.append_nil]
   refine leaves_ok (B := ⟨w, E, fun b => (∃ i ob s, h[i]? = some ob ∧ ob.fz = false ∧ E.ι i = some (b, s) ∧ 0 < s) ∨ E.wl b ≠ 0, noX⟩) (a := a) (N := N) rfl hti hr hrv (k0 := Γ.k0) (by omega) hb0 hlf ?_ (st.all hx.x) st.size ds w1 nd (fun d hd => ⟨(hds d hd).1, (st.mem.keeps d (hds d hd).2.1 (hds d hd).2.2.1).trans (hds d hd).2.2.2⟩) (hx.mem _ _ _ st.mem)
   intro v r h' E' w' q2 q3 q4 q5
   exact ⟨v, r, h', E', rfl, q2, by rw [← hlen_eq h, q5]; exact hkn, q3, q4⟩
  exact run_ok rfl hti hsp hm hb0 htn hrf hit c _ _ [] _ _ h _ w hrun ⟨_, [], E, Ext.refl, st⟩ (fun s h1 a w1 hh st => fin s h1 a w1 hh st) (fun id s h1 a w1 hh st => hh.elim) (fun s h1 a w1 hh st => fin s h1 a w1 hh st)
 exact callsIn_wide.1 hcalls

end

def offsOf (P : Program) (fs : Array Field) : Option (List (Nat × Nat)) := fs.toList.mapM (fun f => (P.info? f.type).map fun i => (f.offset, i.size))
def tdOf (P : Program) (T : TypeId) : TD :=
 match P.underlying T with
 | some .bool => .bool
 | some (.int .i64) => .int
 | some (.int .u8) => .u8
 | some (.int .u32) => .u32
 | some (.int .u64) => .u64
 | some .string => .str
 | some (.pointer _) => .ptr
 | some (.slice e) => .slice e
 | some (.array n e) => .arr n e
 | some (.struct fs) => match offsOf P fs with | some offs => .struct offs | none => .other
 | some (.func _ _ _) => .func
 | some (.interface _) => .iface
 | some (.tuple _) => .tuple
 | _ => .other
def noT : TInf := ⟨.other, 0, 0, .any⟩
def tiOf (P : Program) (T : TypeId) : TInf :=
 match P.info? T with
 | some i => match i.zero with
   | some z => if z.cells.size = i.size ∧ (isAggD (tdOf P T) = false → i.size = 1) then ⟨tdOf P T, i.size, i.bytes, ofVal z⟩ else noT
   | none => noT
 | none => noT

theorem tdOf_ok (P : Program) (T : TypeId) : Desc P T (tdOf P T) := by
 unfold tdOf
 split <;> try (rename_i h; exact h)
 ·rename_i h; exact ⟨_, h⟩
 ·rename_i fs h
  split
  ·rename_i offs ho; exact ⟨fs, h, ho⟩
  ·trivial
 ·rename_i h; exact ⟨_, _, _, h⟩
 ·rename_i h; exact ⟨_, h⟩
 ·rename_i h; exact ⟨_, h⟩
 ·trivial

theorem tiOf_ok (P : Program) : TIok P (tiOf P) := by
 intro T
 cases hi : P.info? T with
 | none =>
   have e : tiOf P T = noT := by unfold tiOf; rw [hi]
   exact .inl ⟨by rw [e]; rfl, trivial⟩
 | some i =>
   cases hz : i.zero with
   | none =>
     have e : tiOf P T = noT := by unfold tiOf; rw [hi]; simp only [hz]
     exact .inl ⟨by rw [e]; rfl, trivial⟩
   | some z =>
     by_cases hh : z.cells.size = i.size ∧ (isAggD (tdOf P T) = false → i.size = 1)
     ·have e : tiOf P T = ⟨tdOf P T, i.size, i.bytes, ofVal z⟩ := by unfold tiOf; rw [hi]; simp only [hz]; rw [if_pos hh]
      rw [e]
      exact .inr ⟨⟨i, z, hi, rfl, rfl, hz, fun E => rel_ofVal E z, hh.1⟩, tdOf_ok P T, hh.2⟩
     ·have e : tiOf P T = noT := by unfold tiOf; rw [hi]; simp only [hz]; rw [if_neg hh]
      exact .inl ⟨by rw [e]; rfl, trivial⟩

section
variable {P : Program}

theorem callFunc_enter {f : FuncId} {fn : Func} (hf : P.funcs[f]? = some fn) (hn : (fn.name == "runtime.NumGoroutine") = false) (hb : fn.body.isNone = false) (args : Array Value) (w : World) : (callFunc f args).run P w = .ok (.enter f args) w := by
 have hn' : ¬ fn.name = "runtime.NumGoroutine" := by simpa using hn
 have hb' : ¬ fn.body = none := by intro e; rw [e] at hb; cases hb
 simp [callFunc, hf, hn', hb']

theorem SpOK.nil : SpOK P [] := fun g e h => by cases h
theorem SpOK.cons {g : Nat} {e : SpE} {sp : Sp} (he : SpE.ok P g e) (hc : ∀ args w, (callFunc g args).run P w = .ok (.enter g args) w) (hs : SpOK P sp) : SpOK P ((g, e) :: sp) := fun k e' h => by
 simp only [sfind] at h
 split at h
 ·rename_i hb; cases h; obtain rfl := Nat.eq_of_beq_eq_true hb; exact ⟨he, hc⟩
 ·exact hs k e' h

theorem acalls_one {f : FuncId} {args args1 : List AV} {R : AV} {h : List AO} {i : Nat} {o o' : AO} (ha : ∀ ρ, ρ 0 = i → renL ρ args1 = args) (hr : below 0 R = true) (hi : hget h i = some o) (ho : below 0 o.c = true) (ho' : below 0 o'.c = true)
  (hc : ACalls P f args1 [o] (fun r hh => r = R ∧ hh = [o'])) : ACalls P f args h (fun r hh => r = R ∧ hh = hset h i o') := by
 rw [hget_eq] at hi
 have hlt := (List.getElem?_eq_some_iff.1 hi).1
 have h0 : rho [i] h.length 0 = i := rfl
 have e : ∀ x : AO, below 0 x.c = true → renO (rho [i] h.length) x = x := fun x hx => by unfold renO; rw [ren_below _ hx]
 have := acalls_local (ns := [i]) (h := h) (h1 := [o]) (h1' := [o']) (h' := hset h i o') (args1 := args1) (args := args) (by simp) (ha _ h0).symm rfl (fun j o1 hj => by
   cases j with
   | zero => simp at hj; subst hj; rw [h0, hi, e o ho]
   | succ j => simp at hj) hc
  ⟨by rw [hset_eq]; simp, by simp, fun k _ hk => by rw [hset_eq, List.getElem?_set_ne (by simp at hk; exact fun e => hk e.symm)], fun j hj => by
    cases j with
    | zero => rw [h0, hset_eq, List.getElem?_set_self hlt]; simp [e o' ho']
    | succ j => simp at hj⟩
 rw [ren_below R hr] at this
 exact this
end

def TellL : List AV → List AV → Prop
 | [], [] => True
 | a :: l, b :: m => Tell a b ∧ TellL l m
 | _, _ => False
def TellH : List AO → List AO → Prop
 | [], [] => True
 | a :: l, b :: m => (a.ep = b.ep ∧ a.fz = b.fz ∧ TellC a.c b.c) ∧ TellH l m
 | _, _ => False
theorem Tell.refl (a : AV) : Tell a a := fun _ _ h => h
theorem Tell.trans {a b c : AV} (h : Tell a b) (k : Tell b c) : Tell a c := fun E v r => k E v (h E v r)
theorem TellC.refl (a : AV) : TellC a a := fun _ _ h => h
theorem TellL.refl : ∀ l, TellL l l
 | [] => trivial
 | a :: l => ⟨Tell.refl a, TellL.refl l⟩
theorem TellH.refl : ∀ l, TellH l l
 | [] => trivial
 | a :: l => ⟨⟨rfl, rfl, TellC.refl _⟩, TellH.refl l⟩
theorem TellL.rel {E : Env} : ∀ {l m : List AV}, TellL l m → ∀ {vs : List Value}, relL E l vs → relL E m vs
 | [], [], _, _, r => r
 | a :: l, b :: m, h, vs, r => by
   simp only [relL] at r ⊢
   obtain ⟨u, us, rfl, h1, h2⟩ := r
   exact ⟨u, us, rfl, h.1 _ _ h1, h.2.rel h2⟩
 | [], _ :: _, h, _, _ => h.elim
 | _ :: _, [], h, _, _ => h.elim
theorem Tell.agg {l m : List AV} (h : TellL l m) : Tell (.agg l) (.agg m) := fun E v r => by
 simp only [Abs.rel] at r ⊢
 obtain ⟨vs, h1, h2, h3⟩ := r
 exact ⟨vs, h1, h.rel h2, h3⟩
theorem Tell.tup {l m : List AV} (h : TellL l m) : Tell (.tup l) (.tup m) := fun E v r => by
 simp only [Abs.rel] at r ⊢
 obtain ⟨vs, h1, h2⟩ := r
 exact ⟨vs, h1, h.rel h2⟩
theorem TellC.agg {l m : List AV} (h : TellL l m) : TellC (.agg l) (.agg m) := fun E v r => by
 simp only [relC] at r ⊢
 exact ⟨h.rel r.1, r.2⟩
theorem TellC.cells {c d : AV} (hd : isC d = true) (h : cells c = cells d) : TellC c d := fun E vs r => by
 obtain ⟨_, k2, k3⟩ := relC_iff.1 r
 exact relC_iff.2 ⟨hd, by rw [← h]; exact k2, k3⟩
theorem TellH.get : ∀ {h' h : List AO}, TellH h h' → h'.length = h.length ∧ ∀ (i : Nat) (b : AO), h'[i]? = some b → ∃ a, h[i]? = some a ∧ a.ep = b.ep ∧ a.fz = b.fz ∧ TellC a.c b.c
 | [], [], _ => ⟨rfl, fun i b hb => by simp at hb⟩
 | b0 :: t', a0 :: t, hq => by
   obtain ⟨h1, h2⟩ := hq
   obtain ⟨k1, k2⟩ := h2.get
   refine ⟨by simp [k1], fun i b hb => ?_⟩
   cases i with
   | zero => simp at hb; subst hb; exact ⟨a0, rfl, h1⟩
   | succ i => exact k2 i b (by simpa using hb)
 | [], _ :: _, hq => hq.elim
 | _ :: _, [], hq => hq.elim
theorem Mem.tell {B : Base} {E : Env} {h : List AO} {w : World} (m : Mem B E h w) {h' : List AO} (hq : TellH h h') : Mem B E h' w := by
 obtain ⟨hl, get⟩ := hq.get
 refine ⟨m.le, m.size, m.os, m.tape, m.output, m.keeps, m.sat, fun i b hi => ?_, fun i j oi oj b s t hi hj fi fj => ?_, m.newP, fun i hi => m.fresh i (by omega), fun i hi => m.base i (by omega),
  m.xt.to rfl rfl (fun _ _ h => h) (fun _ _ h => h) (fun _ _ => rfl) fun k hk j oj b' s' hj fj hb' hs' => ?_⟩
 ·obtain ⟨a', h1, h2, h3, h4⟩ := get i b hi
  obtain ⟨q1, b', s, q2, q3⟩ := m.obj i a' h1
  have tr : ∀ vs, relC E a'.c vs → relC E b.c vs := fun vs hvs => h4 E vs hvs
  refine ⟨q1.trans h2, b', s, q2, ?_⟩
  rw [h3] at q3
  rcases q3 with ⟨g1, g2⟩ | ⟨g0, vs, g1, g2⟩ | ⟨g0, g1, cur, T, fr, vs, post, g2, g3, g4, g5, g6, g7⟩
  ·exact .inl ⟨g1, tr _ g2⟩
  ·exact .inr (.inl ⟨g0, vs, g1, tr _ g2⟩)
  ·exact .inr (.inr ⟨g0, g1, cur, T, fr, vs, post, g2, g3, g4, g5, tr _ g6, g7⟩)
 ·obtain ⟨ai, i1, _, i3, _⟩ := get i oi hi
  obtain ⟨aj, j1, _, j3, _⟩ := get j oj hj
  exact m.inj i j ai aj b s t i1 j1 (i3.trans fi) (j3.trans fj)
 ·obtain ⟨aj, j1, _, j3, _⟩ := get j oj hj
  exact (m.xt.wl k hk).2.2.2 j aj b' s' j1 (j3.trans fj) hb' hs'
section
variable {P : Program} {f : FuncId} {args args' : List AV} {h h' : List AO} {K K' : AV → List AO → Prop}
theorem ACalls.tell (hc : ACalls P f args h K) (hk : ∀ r h1, K r h1 → ∃ r2 h2, K' r2 h2 ∧ Tell r r2 ∧ TellH h1 h2) : ACalls P f args h K' := by
 intro E w vs hvs m
 refine Calls.mono (hc E w vs hvs m) fun e w' hh => ?_
 obtain ⟨v, r, h1, E', q1, q2, q3, q4, q5⟩ := hh
 obtain ⟨r2, h2, p1, p2, p3⟩ := hk r h1 q2
 exact ⟨v, r2, h2, E', q1, p1, by rw [p3.get.1]; exact q3, q4.tell p3, p2 _ _ q5⟩
theorem ACalls.mono (hc : ACalls P f args h K) (hk : ∀ r h1, K r h1 → K' r h1) : ACalls P f args h K' :=
 hc.tell fun r h1 hh => ⟨r, h1, hk _ _ hh, Tell.refl r, TellH.refl h1⟩
theorem ACalls.said (ha : TellL args args') (hc : ACalls P f args' h K) : ACalls P f args h K := fun E w vs hvs m => hc E w vs (ha.rel hvs) m
theorem ACalls.have (F : Prop) (hF : ∀ E vs, relL E args vs → F) (hc : F → ACalls P f args h K) : ACalls P f args h K := fun E w vs hvs m => hc (hF E vs hvs) E w vs hvs m
theorem ACalls.heap (ht : TellH h h') (hc : ACalls P f args h' K) : ACalls P f args h K := by
 intro E w vs hvs m
 obtain ⟨hl, get⟩ := ht.get
 have e : (fun b => (∃ i ob s, h[i]? = some ob ∧ ob.fz = false ∧ E.ι i = some (b, s) ∧ 0 < s) ∨ E.wl b ≠ 0) = (fun b => (∃ i ob s, h'[i]? = some ob ∧ ob.fz = false ∧ E.ι i = some (b, s) ∧ 0 < s) ∨ E.wl b ≠ 0) := by
  funext b
  apply propext
  refine or_congr ?_ Iff.rfl
  constructor
  ·rintro ⟨i, ob, s, h1, h2, h3, h4⟩
   have hi : i < h'.length := by rw [hl]; exact (List.getElem?_eq_some_iff.1 h1).1
   obtain ⟨a, a1, a2, a3, a4⟩ := get i h'[i] (List.getElem?_eq_getElem hi)
   rw [h1] at a1; cases a1
   exact ⟨i, h'[i], s, List.getElem?_eq_getElem hi, by rw [← a3]; exact h2, h3, h4⟩
  ·rintro ⟨i, ob, s, h1, h2, h3, h4⟩
   obtain ⟨a, a1, a2, a3, a4⟩ := get i ob h1
   exact ⟨i, a, s, a1, by rw [a3]; exact h2, h3, h4⟩
 have hc' := hc E w vs hvs
 rw [← e] at hc'
 have := hc' (m.tell ht)
 rw [hl] at this
 exact this
end

def G0 (keep : List Nat) (sp : Sp) : G := { sp := sp, keep := keep, k0 := 0, inv := fun _ _ _ => { X := Unit, x0 := (), pre := fun _ => False, inv := fun _ => ([], []), mu := fun _ => 0, ren := false } }
def GL (keep : List Nat) (sp : Sp) (L : Nat → LI) : G := { sp := sp, keep := keep, k0 := 0, inv := fun i _ _ => L i }
def GK (k0 : Nat) (keep : List Nat) (sp : Sp) : G := { sp := sp, keep := keep, k0 := k0, inv := fun _ _ _ => { X := Unit, x0 := (), pre := fun _ => False, inv := fun _ => ([], []), mu := fun _ => 0, ren := false } }
def GKL (k0 : Nat) (keep : List Nat) (sp : Sp) (L : Nat → LI) : G := { sp := sp, keep := keep, k0 := k0, inv := fun i _ _ => L i }
def GR (keep : List Nat) (sp : Sp) (R : RI) (rf : List Nat) (tn : Nat) : G := { sp := sp, keep := keep, k0 := 0, inv := fun _ _ _ => { X := Unit, x0 := (), pre := fun _ => False, inv := fun _ => ([], []), mu := fun _ => 0, ren := false }, rinv := R, rf := rf, tn := tn }

structure By where
 nil : Bool
 l : List UInt8
def By.A (b : By) : AV := .sl b.nil b.l.length 1 (.ab b.l) false
structure Num where
 (a0 a1 a2 a3 a4 a5 a6 a7 : UInt32)
 deriving DecidableEq
def Num.C (x : Num) : List AV := [.u32 x.a0, .u32 x.a1, .u32 x.a2, .u32 x.a3, .u32 x.a4, .u32 x.a5, .u32 x.a6, .u32 x.a7]
def Num.L (x : Num) : List UInt32 := [x.a0, x.a1, x.a2, x.a3, x.a4, x.a5, x.a6, x.a7]
def Num.of (l : List UInt32) : Num := ⟨l.getD 0 0, l.getD 1 0, l.getD 2 0, l.getD 3 0, l.getD 4 0, l.getD 5 0, l.getD 6 0, l.getD 7 0⟩
def Num.zero : Num := ⟨0, 0, 0, 0, 0, 0, 0, 0⟩

def intD : AV → Option Int | .int n => some n | _ => none
def u32D : AV → Option UInt32 | .u32 n => some n | _ => none
def u8D : AV → Option UInt8 | .u8 n => some n | _ => none
def boolD : AV → Option Bool | .bool n => some n | _ => none
def strD : AV → Option (List UInt8) | .str n => some n | _ => none
def byD : AV → Option By
 | .sl nl n sz (.ab l) fl => match Nat.beq sz 1 with | true => some ⟨nl, l⟩ | false => none
 | .sl true n sz (.agg []) fl => some ⟨true, []⟩
 | .ob nl l => some ⟨nl, l⟩
 | _ => none
def numD : AV → Option Num
 | .agg [.u32 a0, .u32 a1, .u32 a2, .u32 a3, .u32 a4, .u32 a5, .u32 a6, .u32 a7] => some ⟨a0, a1, a2, a3, a4, a5, a6, a7⟩
 | _ => none
def intsD : AV → Option (List Int)
 | .sl nl n sz (.ai l) fl => match Nat.beq sz 1 with | true => some l | false => none
 | .sl true n sz (.agg []) fl => some []
 | _ => none

structure Kd (α : Type) where
 dec : AV → Option α
 enc : α → AV
 tell : ∀ a x, dec a = some x → Tell a (enc x)
 below : ∀ x, below 0 (enc x) = true
def kInt : Kd Int := ⟨intD, .int, fun a x h => by cases a <;> simp only [intD, reduceCtorEq, Option.some.injEq] at h; subst h; exact Tell.refl _, fun _ => rfl⟩
def kU32 : Kd UInt32 := ⟨u32D, .u32, fun a x h => by cases a <;> simp only [u32D, reduceCtorEq, Option.some.injEq] at h; subst h; exact Tell.refl _, fun _ => rfl⟩
def kU8 : Kd UInt8 := ⟨u8D, .u8, fun a x h => by cases a <;> simp only [u8D, reduceCtorEq, Option.some.injEq] at h; subst h; exact Tell.refl _, fun _ => rfl⟩
def kBool : Kd Bool := ⟨boolD, .bool, fun a x h => by cases a <;> simp only [boolD, reduceCtorEq, Option.some.injEq] at h; subst h; exact Tell.refl _, fun _ => rfl⟩
def kStr : Kd (List UInt8) := ⟨strD, .str, fun a x h => by cases a <;> simp only [strD, reduceCtorEq, Option.some.injEq] at h; subst h; exact Tell.refl _, fun _ => rfl⟩
theorem sl_ab {E : Env} {nl fl : Bool} {n : Nat} {l : List UInt8} {v : Value} (h : rel E (.sl nl n 1 (.ab l) fl) v) : n = l.length ∧ (nl = true → l = []) := by
 simp only [rel] at h
 split at h
 ·obtain ⟨h1, h2, h3⟩ := h
  simp only [relC] at h3
  have : l = [] := by simpa using h3.symm
  exact ⟨by rw [h2, this]; rfl, fun _ => this⟩
 ·rename_i hn
  obtain ⟨a, cap, vs, h1, h2, h3, h4, h5, h6⟩ := h
  simp only [relC] at h6
  exact ⟨by rw [h6] at h5; simp at h5; omega, fun e => absurd e hn⟩
theorem sl_ai {E : Env} {nl fl : Bool} {n : Nat} {l : List Int} {v : Value} (h : rel E (.sl nl n 1 (.ai l) fl) v) : n = l.length ∧ (nl = true → l = []) := by
 simp only [rel] at h
 split at h
 ·obtain ⟨h1, h2, h3⟩ := h
  simp only [relC] at h3
  have : l = [] := by simpa using h3.symm
  exact ⟨by rw [h2, this]; rfl, fun _ => this⟩
 ·rename_i hn
  obtain ⟨a, cap, vs, h1, h2, h3, h4, h5, h6⟩ := h
  simp only [relC] at h6
  exact ⟨by rw [h6] at h5; simp at h5; omega, fun e => absurd e hn⟩
theorem sl_full {E : Env} {nl fl : Bool} {n sz : Nat} {c : AV} {v : Value} (h : rel E (.sl nl n sz c fl) v) : rel E (.sl nl n sz c false) v := by
 simp only [rel] at h ⊢
 split
 ·rename_i hn; rw [if_pos hn] at h; exact h
 ·rename_i hn; rw [if_neg hn] at h
  obtain ⟨a, cap, vs, h1, h2, h3, h4⟩ := h
  exact ⟨a, cap, vs, h1, h2, (fun e => by cases e), h4⟩
theorem sl_nil {E : Env} {n sz : Nat} {c d : AV} {fl fl' : Bool} {v : Value} (hd : relC E d []) (h : rel E (.sl true n sz c fl) v) : rel E (.sl true 0 1 d fl') v := by
 simp only [rel, if_true] at h ⊢
 exact ⟨h.1, trivial, hd⟩
theorem ob_sl {E : Env} {nl : Bool} {l : List UInt8} {v : Value} (r : rel E (.ob nl l) v) : rel E (By.A ⟨nl, l⟩) v := by
 simp only [rel, relO8, By.A] at r ⊢
 split
 ·rename_i hn
  rw [if_pos hn] at r
  obtain ⟨h1, rfl⟩ := r
  exact ⟨h1, rfl, by simp [relC]⟩
 ·rename_i hn
  rw [if_neg hn] at r
  obtain ⟨a, cap, vs, h1, h2, h3, rfl⟩ := r
  exact ⟨a, cap, l.map u8v, h1, h2, (fun e => (by cases e)), h3.imp id (fun ⟨b, x, y, _⟩ => ⟨b, 0, x, y⟩), by simp, by simp [relC]⟩
theorem byD_tell (a : AV) (b : By) (h : byD a = some b) : Tell a b.A := by
 unfold byD at h
 split at h
 ·rename_i nl n sz l fl
  split at h
  ·rename_i hz
   cases h
   obtain rfl := Nat.eq_of_beq_eq_true hz
   intro E v r
   obtain ⟨e, _⟩ := sl_ab r
   subst e
   exact sl_full r
  ·cases h
 ·cases h
  exact fun E v r => sl_nil (by simp [relC]) r
 ·cases h
  exact fun E v r => ob_sl r
 ·cases h
def kBy : Kd By := ⟨byD, By.A, byD_tell, fun _ => rfl⟩
theorem By.A_spec {E : Env} {b : By} {v : Value} (h : rel E b.A v) : b.nil = true → b.l = [] := (sl_ab h).2
theorem numD_tell (a : AV) (x : Num) (h : numD a = some x) : Tell a (.agg x.C) := by
 unfold numD at h
 split at h
 ·cases h; exact Tell.refl _
 ·cases h
def kNum : Kd Num := ⟨numD, fun x => .agg x.C, numD_tell, fun _ => rfl⟩
def intsA (l : List Int) : AV := .sl false l.length 1 (.ai l) false
theorem below_ok : ∀ x, below 0 (intsA x) = true := fun _ => rfl

theorem acalls_more {P : Program} {f : FuncId} {args : List AV} {R1 : AV} {h1' : List AO} (hb : belowL 0 args = true) (ho : ∀ o ∈ h1', below 0 o.c = true) (hc : ACalls P f args [] (fun r hh => r = R1 ∧ hh = h1')) (h : List AO) :
  ACalls P f args h (fun r hh => r = ren (rho [] h.length) R1 ∧ hh = h ++ h1') := by
 refine acalls_local (ns := []) (h := h) (h1 := []) (h1' := h1') (h' := h ++ h1') (args1 := args) (args := args) List.nodup_nil (renL_below args hb).symm rfl (fun j o1 hj => by simp at hj) hc
  ⟨by simp, by simp, fun i hi _ => List.getElem?_append_left hi, fun j hj => ?_⟩
 have e : rho [] h.length j = h.length + j := by simp [rho]
 rw [e, List.getElem?_append_right (by omega), show h.length + j - h.length = j by omega]
 cases hj' : h1'[j]? with
 | none => rfl
 | some o => simp only [Option.map_some, renO]; rw [ren_below _ (ho o (List.mem_of_getElem? hj'))]

theorem acalls_obj {P : Program} {f : FuncId} {args args1 : List AV} {R R1 : AV} {h : List AO} {i : Nat} {o o' : AO} (ha : ∀ ρ, ρ 0 = i → renL ρ args1 = args) (hr : ∀ ρ, ρ 0 = i → ren ρ R1 = R) (hi : hget h i = some o) (ho : below 0 o.c = true) (ho' : below 0 o'.c = true)
  (hc : ACalls P f args1 [o] (fun r hh => r = R1 ∧ hh = [o'])) : ACalls P f args h (fun r hh => r = R ∧ hh = hset h i o') := by
 rw [hget_eq] at hi
 have hlt := (List.getElem?_eq_some_iff.1 hi).1
 have h0 : rho [i] h.length 0 = i := rfl
 have e : ∀ x : AO, below 0 x.c = true → renO (rho [i] h.length) x = x := fun x hx => by unfold renO; rw [ren_below _ hx]
 have := acalls_local (ns := [i]) (h := h) (h1 := [o]) (h1' := [o']) (h' := hset h i o') (args1 := args1) (args := args) (by simp) (ha _ h0).symm rfl (fun j o1 hj => by
   cases j with
   | zero => simp at hj; subst hj; rw [h0, hi, e o ho]
   | succ j => simp at hj) hc
  ⟨by rw [hset_eq]; simp, by simp, fun k _ hk => by rw [hset_eq, List.getElem?_set_ne (by simp at hk; exact fun e => hk e.symm)], fun j hj => by
    cases j with
    | zero => rw [h0, hset_eq, List.getElem?_set_self hlt]; simp [e o' ho']
    | succ j => simp at hj⟩
 rw [hr _ h0] at this
 exact this
def evP {σ α : Type} (d0 : AV → Option σ) (e0 : σ → AV) (d1 : List AV → Option α) (pre : σ → α → Option Prop) (out : σ → α → AV) (nxt : σ → α → σ) : List AV → List AO → ER
 | .ptr i e o :: as, h => match Nat.beq e 0 with
   | true => match Nat.beq o 0 with
     | true => match hget h i with
       | some ob => match Nat.beq ob.ep 0 with
         | true => match ob.fz with
           | false => match d0 ob.c with
             | some s => match d1 as with
               | some x => .e (pre s x) (out s x) (hset h i ⟨0, e0 (nxt s x), false⟩)
               | none => .no
             | none => .no
           | true => .no
         | false => .no
       | none => .no
     | false => .no
   | false => .no
 | _, _ => .no
structure KL (α : Type) where
 dec : List AV → Option α
 enc : α → List AV
 tell : ∀ a x, dec a = some x → TellL a (enc x)
 below : ∀ x, belowL 0 (enc x) = true
def l0D : List AV → Option Unit | [] => some () | _ => none
def l1D {α : Type} (d1 : AV → Option α) : List AV → Option α | [a] => d1 a | _ => none
def l2D {α β : Type} (d1 : AV → Option α) (d2 : AV → Option β) : List AV → Option (α × β)
 | [a, b] => match d1 a with | some x => (match d2 b with | some y => some (x, y) | none => none) | none => none
 | _ => none
def kl0 : KL Unit := ⟨l0D, fun _ => [], fun a x h => (by cases a with | nil => trivial | cons => cases h), fun _ => rfl⟩
def kl1 {α : Type} (k : Kd α) : KL α := ⟨l1D k.dec, fun x => [k.enc x], fun a x h => (match a, h with
 | [a], h => ⟨k.tell _ _ h, trivial⟩), fun x => by simp [belowL, k.below]⟩
theorem evP_ok {P : Program} {g : Nat} {σ α : Type} (k0 : Kd σ) (hC0 : ∀ a s, k0.dec a = some s → TellC a (k0.enc s)) (k1 : KL α) {pre : σ → α → Option Prop} {out : σ → α → AV} {nxt : σ → α → σ} {fz : Bool} (hr : ∀ s x, below 0 (out s x) = true)
  (hc : ∀ s x, holds (pre s x) → ACalls P g (.ptr 0 0 0 :: k1.enc x) [⟨0, k0.enc s, false⟩] (fun r hh => r = out s x ∧ hh = [⟨0, k0.enc (nxt s x), false⟩])) : SpE.ok P g ⟨fz, evP k0.dec k0.enc k1.dec pre out nxt⟩ := by
 intro args h
 simp only
 unfold evP
 split
 ·rename_i C A he; split at he <;> (repeat' split at he) <;> cases he
 ·rename_i C A h1 he
  split at he
  ·rename_i i e o as
   split at he
   ·rename_i he0
    split at he
    ·rename_i ho0
     split at he
     ·rename_i ob hob
      split at he
      ·rename_i hep
       split at he
       ·rename_i hfz
        split at he
        ·rename_i s hs
         split at he
         ·rename_i x hx
          cases he
          obtain rfl := Nat.eq_of_beq_eq_true he0
          obtain rfl := Nat.eq_of_beq_eq_true ho0
          have hep := Nat.eq_of_beq_eq_true hep
          intro hC
          have h1 := acalls_obj (P := P) (f := g) (args := .ptr i 0 0 :: k1.enc x) (args1 := .ptr 0 0 0 :: k1.enc x) (R := out s x) (R1 := out s x) (h := hset h i ⟨0, k0.enc s, false⟩) (i := i) (o := ⟨0, k0.enc s, false⟩) (o' := ⟨0, k0.enc (nxt s x), false⟩)
           (fun ρ hρ => by simp only [renL, ren, hρ, renL_below _ (k1.below x)]) (fun ρ _ => ren_below _ (hr s x)) (by rw [hget_eq, hset_eq, List.getElem?_set_self]; rw [hget_eq] at hob; exact (List.getElem?_eq_some_iff.1 hob).1) (k0.below s) (k0.below _) (hc s x hC)
          have e : hset (hset h i ⟨0, k0.enc s, false⟩) i ⟨0, k0.enc (nxt s x), false⟩ = hset h i ⟨0, k0.enc (nxt s x), false⟩ := by simp only [hset_eq, List.set_set]
          rw [e] at h1
          refine ACalls.heap ?_ (ACalls.said (args' := .ptr i 0 0 :: k1.enc x) ⟨Tell.refl _, k1.tell _ _ hx⟩ h1)
          have key : ∀ (l : List AO) (i : Nat), l[i]? = some ob → TellH l (l.set i ⟨0, k0.enc s, false⟩) := fun l => by
           induction l with
           | nil => intro i hi; simp at hi
           | cons y l ih =>
             intro i hi
             cases i with
             | zero =>
               simp at hi; subst hi
               exact ⟨⟨hep, hfz, hC0 _ _ hs⟩, TellH.refl _⟩
             | succ i => exact ⟨⟨rfl, rfl, TellC.refl _⟩, ih i (by simpa using hi)⟩
          rw [hset_eq]
          exact key h i (by rw [← hget_eq]; exact hob)
         ·cases he
        ·cases he
       ·cases he
      ·cases he
     ·cases he
    ·cases he
   ·cases he
  ·cases he
 ·rename_i C h1 he; split at he <;> (repeat' split at he) <;> cases he
 ·trivial

section
variable {α β γ δ : Type}
def ev0 (out : AV) : List AV → List AO → ER
 | [], _ => .v none out
 | _, _ => .no
def ev1 (d1 : AV → Option α) (pre : α → Option Prop) (out : α → AV) : List AV → List AO → ER
 | [a], _ => match d1 a with | some x => .v (pre x) (out x) | none => .no
 | _, _ => .no
def ev2 (d1 : AV → Option α) (d2 : AV → Option β) (pre : α → β → Option Prop) (out : α → β → AV) : List AV → List AO → ER
 | [a, b], _ => match d1 a with | some x => (match d2 b with | some y => .v (pre x y) (out x y) | none => .no) | none => .no
 | _, _ => .no
def ev3 (d1 : AV → Option α) (d2 : AV → Option β) (d3 : AV → Option γ) (pre : α → β → γ → Option Prop) (out : α → β → γ → AV) : List AV → List AO → ER
 | [a, b, c], _ => match d1 a with | some x => (match d2 b with | some y => (match d3 c with | some z => .v (pre x y z) (out x y z) | none => .no) | none => .no) | none => .no
 | _, _ => .no
def ev4 (d1 : AV → Option α) (d2 : AV → Option β) (d3 : AV → Option γ) (d4 : AV → Option δ) (pre : α → β → γ → δ → Option Prop) (out : α → β → γ → δ → AV) : List AV → List AO → ER
 | [a, b, c, d], _ => match d1 a with | some x => (match d2 b with | some y => (match d3 c with | some z => (match d4 d with | some u => .v (pre x y z u) (out x y z u) | none => .no) | none => .no) | none => .no) | none => .no
 | _, _ => .no
variable {P : Program} {g : Nat}
theorem ev0_ok {out : AV} {fz : Bool} (hr : below 0 out = true) (hc : ACalls P g [] [] (fun r hh => r = out ∧ hh = [])) : SpE.ok P g ⟨fz, ev0 out⟩ := by
 intro args h
 cases args with
 | nil => exact fun _ => acalls_pure rfl hr hc h
 | cons a l => simp only [ev0]
theorem ev1_ok (k1 : Kd α) {pre : α → Option Prop} {out : α → AV} {fz : Bool} (hr : ∀ x, below 0 (out x) = true) (hc : ∀ x, holds (pre x) → ACalls P g [k1.enc x] [] (fun r hh => r = out x ∧ hh = [])) : SpE.ok P g ⟨fz, ev1 k1.dec pre out⟩ := by
 intro args h
 rcases args with _ | ⟨a, _ | ⟨b, l⟩⟩
 ·simp only [ev1]
 ·simp only [ev1]
  split
  ·rename_i C A he
   split at he
   ·rename_i x hx
    cases he
    exact fun hC => ACalls.said (args' := [k1.enc x]) ⟨k1.tell _ _ hx, trivial⟩ (acalls_pure (by simp [belowL, k1.below]) (hr x) (hc x hC) h)
   ·cases he
  ·rename_i he; split at he <;> cases he
  ·rename_i he; split at he <;> cases he
  ·trivial
 ·simp only [ev1]
theorem ev2_ok (k1 : Kd α) (k2 : Kd β) {pre : α → β → Option Prop} {out : α → β → AV} {fz : Bool} (hr : ∀ x y, below 0 (out x y) = true) (hc : ∀ x y, holds (pre x y) → ACalls P g [k1.enc x, k2.enc y] [] (fun r hh => r = out x y ∧ hh = [])) : SpE.ok P g ⟨fz, ev2 k1.dec k2.dec pre out⟩ := by
 intro args h
 rcases args with _ | ⟨a, _ | ⟨b, _ | ⟨c, l⟩⟩⟩ <;> try (simp only [ev2]; done)
 simp only [ev2]
 cases h1 : k1.dec a with
 | none => trivial
 | some x =>
   cases h2 : k2.dec b with
   | none => trivial
   | some y => exact fun hC => ACalls.said (args' := [k1.enc x, k2.enc y]) ⟨k1.tell _ _ h1, k2.tell _ _ h2, trivial⟩ (acalls_pure (by simp [belowL, k1.below, k2.below]) (hr x y) (hc x y hC) h)
theorem ev3_ok (k1 : Kd α) (k2 : Kd β) (k3 : Kd γ) {pre : α → β → γ → Option Prop} {out : α → β → γ → AV} {fz : Bool} (hr : ∀ x y z, below 0 (out x y z) = true) (hc : ∀ x y z, holds (pre x y z) → ACalls P g [k1.enc x, k2.enc y, k3.enc z] [] (fun r hh => r = out x y z ∧ hh = [])) : SpE.ok P g ⟨fz, ev3 k1.dec k2.dec k3.dec pre out⟩ := by
 intro args h
 rcases args with _ | ⟨a, _ | ⟨b, _ | ⟨c, _ | ⟨d, l⟩⟩⟩⟩ <;> try (simp only [ev3]; done)
 simp only [ev3]
 cases h1 : k1.dec a with
 | none => trivial
 | some x =>
   cases h2 : k2.dec b with
   | none => trivial
   | some y =>
     cases h3 : k3.dec c with
     | none => trivial
     | some z => exact fun hC => ACalls.said (args' := [k1.enc x, k2.enc y, k3.enc z]) ⟨k1.tell _ _ h1, k2.tell _ _ h2, k3.tell _ _ h3, trivial⟩ (acalls_pure (by simp [belowL, k1.below, k2.below, k3.below]) (hr x y z) (hc x y z hC) h)
theorem ev4_ok (k1 : Kd α) (k2 : Kd β) (k3 : Kd γ) (k4 : Kd δ) {pre : α → β → γ → δ → Option Prop} {out : α → β → γ → δ → AV} {fz : Bool} (hr : ∀ x y z u, below 0 (out x y z u) = true) (hc : ∀ x y z u, holds (pre x y z u) → ACalls P g [k1.enc x, k2.enc y, k3.enc z, k4.enc u] [] (fun r hh => r = out x y z u ∧ hh = [])) : SpE.ok P g ⟨fz, ev4 k1.dec k2.dec k3.dec k4.dec pre out⟩ := by
 intro args h
 rcases args with _ | ⟨a, _ | ⟨b, _ | ⟨c, _ | ⟨d, _ | ⟨e, l⟩⟩⟩⟩⟩ <;> try (simp only [ev4]; done)
 simp only [ev4]
 cases h1 : k1.dec a with
 | none => trivial
 | some x =>
   cases h2 : k2.dec b with
   | none => trivial
   | some y =>
     cases h3 : k3.dec c with
     | none => trivial
     | some z =>
       cases h4 : k4.dec d with
       | none => trivial
       | some u => exact fun hC => ACalls.said (args' := [k1.enc x, k2.enc y, k3.enc z, k4.enc u]) ⟨k1.tell _ _ h1, k2.tell _ _ h2, k3.tell _ _ h3, k4.tell _ _ h4, trivial⟩ (acalls_pure (by simp [belowL, k1.below, k2.below, k3.below, k4.below]) (hr x y z u) (hc x y z u hC) h)
end
open Go.RowKit

def envOf (w : World) : Env := ⟨fun b => match w.heap[b]? with | some (.cells cs _ _) => some cs | _ => none, fun _ => none, fun _ => 0, fun _ => False, fun _ => 0⟩
theorem mem_of (w : World) : Mem ⟨w, envOf w, fun b => (∃ i ob s, ([] : List AO)[i]? = some ob ∧ ob.fz = false ∧ (envOf w).ι i = some (b, s) ∧ 0 < s) ∨ (envOf w).wl b ≠ 0, noX⟩ (envOf w) [] w := by
 refine ⟨Env.le.refl _, Nat.le_refl _, rfl, rfl, rfl, fun b _ _ => rfl, fun b cs hb => ?_, fun i ob hi => by simp at hi, fun i j oi oj b s t hi => by simp at hi, fun b hb => .inl hb, fun i _ => ⟨rfl, rfl⟩, fun i _ => rfl, ⟨fun b hb => hb.elim, fun b hb => absurd rfl hb⟩⟩
 simp only [envOf] at hb
 split at hb
 ·rename_i cs' T fr he; cases hb; exact ⟨T, fr, he⟩
 ·cases hb
theorem law_calls {P : Program} {f : FuncId} {args : List AV} (hc : ACalls P f args [] (fun a h => a = .bool true ∧ h = [])) (w : World) (vs : List Value) (hr : relL (envOf w) args vs) :
  Calls P f vs.toArray w (fun e w' => e = .returned (.bool true) ∧ Below w.heap.size w w') := by
 refine (hc (envOf w) w vs hr (mem_of w)).mono fun e w' h => ?_
 obtain ⟨v, r, h', E', rfl, ⟨rfl, rfl⟩, _, m, hv⟩ := h
 simp only [rel] at hv
 subst hv
 exact ⟨rfl, ⟨m.os, m.tape, m.output, m.size, fun k hk => m.keeps k hk (fun h => by rcases h with ⟨i, ob, s, h1, _⟩ | h <;> first | (simp at h1; done) | exact h rfl)⟩⟩
theorem at_of {w : World} {b o : Nat} {vs : List Value} (h0 : vs ≠ []) (h : ∀ i (hi : i < vs.length), w.cell? ⟨b, o + i, none⟩ = some vs[i]) : (envOf w).at_ b o vs := by
 have hp : 0 < vs.length := List.length_pos_iff.2 h0
 obtain ⟨cs, hcs⟩ : ∃ cs, (envOf w).p b = some cs := by
  have h1 := h 0 hp
  unfold World.cell? at h1
  simp only [envOf]
  split at h1
  ·rename_i c T fr he
   exact ⟨c, by rw [show w.heap[b]? = _ from he]⟩
  ·cases h1
 have hg : ∀ i (hi : i < vs.length), cs[o + i]? = some vs[i] := fun i hi => by
  have h1 := h i hi
  simp only [envOf] at hcs
  unfold World.cell? at h1
  split at hcs
  ·rename_i c T fr he
   cases hcs
   simp only at h1
   rw [he] at h1
   simpa using h1
  ·cases hcs
 have hsz : o + vs.length ≤ cs.size := by
  have h1 := hg (vs.length - 1) (by omega)
  have := (Array.getElem?_eq_some_iff.1 h1).1
  omega
 refine ⟨cs, cs.toList.take o, cs.toList.drop (o + vs.length), hcs, ?_, by simp; omega⟩
 have e : vs = (cs.toList.drop o).take vs.length := by
  apply List.ext_getElem
  ·simp; omega
  ·intro i h1 h2
   have := hg i h1
   rw [List.getElem_take, List.getElem_drop]
   have h3 := (Array.getElem?_eq_some_iff.1 this)
   obtain ⟨h4, h5⟩ := h3
   rw [← h5]; simp
 have e2 : (cs.toList.drop o).take vs.length ++ cs.toList.drop (o + vs.length) = cs.toList.drop o := by
  rw [← List.drop_drop, List.take_append_drop]
 rw [List.append_assoc]
 conv => rhs; rw [e]
 rw [List.length_take, List.length_drop, Nat.min_eq_left (by simp; omega), e2, List.take_append_drop]

def IsRow (k : IntKind) (w : World) (a : Option Addr) (len cap : Nat) (zs : List Int) : Prop :=
 (a = none ∧ len = 0 ∧ cap = 0 ∧ zs = []) ∨
 ∃ x, a = some x ∧ len ≤ cap ∧ cap ≤ maxLen ∧ zs.length = cap ∧ (∀ i, i < zs.length → w.cell? (x.add i) = some (.int k (zs.getD i 0))) ∧ ∀ n ∈ zs, (Lit.int k n).wf = true
theorem row_rel {k : IntKind} {w : World} {a : Option Addr} {len cap : Nat} {zs : List Int} {c : AV} (h : IsRow k w a len cap zs) (hc : relC (envOf w) c ((zs.take len).map (Value.int k))) : rel (envOf w) (.sl a.isNone len 1 c false) (.slice a len cap) := by
 simp only [rel]
 rcases h with ⟨rfl, rfl, rfl, rfl⟩ | ⟨x, rfl, h1, h2, h3, h4, h5⟩
 ·simp only [Option.isNone, if_true]
  exact ⟨trivial, trivial, by simpa using hc⟩
 ·simp only [Option.isNone, Bool.false_eq_true, if_false]
  refine ⟨x, cap, (zs.take len).map (Value.int k), rfl, h1, (fun e => by cases e), ?_, by simp; omega, hc⟩
  by_cases h0 : len = 0
  ·left; subst h0; simp
  ·right
   obtain ⟨b, off, spot⟩ := x
   have hc0 := h4 0 (by omega)
   have hs : spot = none := by simpa [Addr.add] using World.cell?_spot hc0
   subst hs
   refine ⟨b, off, rfl, at_of (by intro e; have := congrArg List.length e; rw [List.length_map, List.length_take, List.length_nil] at this; omega) fun i hi => ?_⟩
   simp at hi
   have := h4 i (by omega)
   have e : (⟨b, off, none⟩ : Addr).add i = ⟨b, off + i, none⟩ := by
    unfold Addr.add
    split
    ·rename_i hz; subst hz; rfl
    ·rfl
   rw [e] at this
   rw [this]
   simp [List.getD_eq_getElem?_getD, List.getElem?_eq_getElem (show i < zs.length by omega)]
theorem byte_in {n : Int} (h : (Lit.int .u8 n).wf = true) : 0 ≤ n ∧ n ≤ 255 := by
 simp only [Lit.wf, Bool.and_eq_true, decide_eq_true_eq] at h
 exact h
theorem row_bytes {w : World} {a : Option Addr} {len cap : Nat} {zs : List Int} (h : IsRow .u8 w a len cap zs) : ∃ b : By, rel (envOf w) b.A (.slice a len cap) := by
 have hw : ∀ n ∈ zs, (Lit.int .u8 n).wf = true := by
  rcases h with ⟨_, _, _, rfl⟩ | ⟨_, _, _, _, _, _, h⟩
  ·intro n hn; cases hn
  ·exact h
 have hl : (zs.take len).length = len := by
  rcases h with ⟨_, rfl, _, rfl⟩ | ⟨_, _, h1, _, h3, _, _⟩
  ·rfl
  ·simp; omega
 refine ⟨⟨a.isNone, (zs.take len).map UInt8.ofInt⟩, ?_⟩
 show rel _ (.sl a.isNone ((zs.take len).map UInt8.ofInt).length 1 _ false) _
 rw [List.length_map, hl]
 refine row_rel h ?_
 simp only [relC, List.map_map]
 apply List.map_congr_left
 intro n hn
 have h8 := hw n (List.mem_of_mem_take hn)
 have h8 := byte_in h8
 simp only [Function.comp, u8v, u8_ofInt]
 congr 1
 omega
theorem row_ints {w : World} {a : Option Addr} {len cap : Nat} {zs : List Int} (h : IsRow .i64 w a len cap zs) : ∃ (nl : Bool) (l : List Int), rel (envOf w) (.sl nl l.length 1 (.ai l) false) (.slice a len cap) := by
 have hl : (zs.take len).length = len := by
  rcases h with ⟨_, rfl, _, rfl⟩ | ⟨_, _, h1, _, h3, _, _⟩
  ·rfl
  ·simp; omega
 refine ⟨a.isNone, zs.take len, ?_⟩
 rw [hl]
 exact row_rel h (by simp only [relC]; rfl)
theorem byte_rel (w : World) {n : Int} (h : (Lit.int .u8 n).wf = true) : ∃ x : UInt8, rel (envOf w) (.u8 x) (.int .u8 n) := by
 refine ⟨UInt8.ofInt n, ?_⟩
 simp only [rel, u8v, u8_ofInt]
 have h := byte_in h
 congr 1
 omega
theorem relL_nil' (E : Env) : relL E [] [] := by simp only [relL]
theorem relL_cons' {E : Env} {a : AV} {l : List AV} {u : Value} {us : List Value} (h : rel E a u) (k : relL E l us) : relL E (a :: l) (u :: us) := by simp only [relL]; exact ⟨_, _, rfl, h, k⟩
theorem rel_int' (E : Env) (n : Int) : rel E (.int n) (.int .i64 n) := by simp only [rel]; rfl
theorem rel_bool' (E : Env) (b : Bool) : rel E (.bool b) (.bool b) := by simp only [rel]
theorem rel_str' (E : Env) (s : ByteArray) : rel E (.str s.data.toList) (.string s) := by simp only [rel]; exact ⟨s, rfl, rfl⟩
def FnOK (P : Program) (f N : Nat) (res : List RV) (cc : CC) : Prop := ∃ fn c rs mu pures, P.funcs[f]? = some fn ∧ fn.body = some c ∧ fn.results = rs.toArray ∧ rvOK (tiOf P) rs = true ∧ fn.ntmps = N ∧ comp (tiOf P) mu pures N c = cc ∧ rs.map (rvOf (tiOf P)) = res ∧ P.follows .mixedOrders = true ∧
 ∀ args w, (callFunc f args).run P w = .ok (.enter f args) w
theorem FnOK.run {P : Program} {f N : Nat} {res : List RV} {cc : CC} (o : FnOK P f N res cc) {Γ : G} (hsp : SpOK P Γ.sp) {args : List AV} {h : List AO} {own : Bool} {kn : Nat} {K : AV → List AO → Prop} (hl : args.length ≤ N) (hk0 : Γ.k0 = hlen h) (hkn : hlen h ≤ kn)
  (hrun : Go.Abs.run Γ cc (leafK Γ.sp res own kn K) [] (leafK Γ.sp res own kn K) (argS 0 args) h) (htn : Γ.tn ≤ N := by exact Nat.zero_le _)
  (hrf : ∀ F, rfind Γ.rf F = true → FdIter P F ∧ ∀ args w, (callFunc F args).run P w = .ok (.enter F args) w := by exact fun F h => absurd h (show ¬ (false = true) from Bool.false_ne_true))
  (hit : ∀ F it, ifind Γ.its F = some it → ITok P (tiOf P) F it := by exact fun F it h => by cases h) : ACalls P f args h K := by
 obtain ⟨fn, c, rs, mu, pures, h1, h2, h3, h4, h5, h6, h7, h8, _⟩ := o
 exact acalls_of_run (tiOf_ok _) hsp h8 h1 h2 h3 h4 h5 h6 h7 hl hk0 htn hrf hit hkn hrun
theorem FnOK.enter {P : Program} {f N : Nat} {res : List RV} {cc : CC} (o : FnOK P f N res cc) : ∀ args w, (callFunc f args).run P w = .ok (.enter f args) w := by
 obtain ⟨_, _, _, _, _, _, _, _, _, _, _, _, _, h⟩ := o
 exact h

structure RUN (Γ : G) (c : CC) (k : KT) (X : List (Nat × KT)) (r : KT) (s : SL) (h : List AO) : Prop where
 nf : ∃ n : Nat, n * n = 4
 out : run Γ c k X r s h
theorem RUN_eq (Γ : G) (c : CC) (k : KT) (X : List (Nat × KT)) (r : KT) : RUN Γ c k X r = run Γ c k X r := by
 funext s h
 exact propext ⟨fun h => h.out, fun h => ⟨⟨2, rfl⟩, h⟩⟩
section
variable {Γ : G} {c : CC} {k : KT} {X : List (Nat × KT)} {r : KT} {s : SL} {h : List AO}
theorem RUN.seq {a b : CC} (hc : c = .seq a b) (hr : ∀ κ : KT, κ = RUN Γ b k X r → RUN Γ a κ X r s h) : RUN Γ c k X r s h := by
 subst hc
 have := (hr _ rfl).out
 rw [RUN_eq] at this
 exact ⟨⟨2, rfl⟩, this⟩
theorem RUN.reg {sp : Sp} {kp : List Nat} (hsp : Γ.sp = sp) (hkp : Γ.keep = kp) {ops : List CO} {cf : List (Nat × Nat)} (hc : c = .reg ops cf) (hr : ∀ κ : KT, κ = k → runOps sp kp cf ops κ s h) : RUN Γ c k X r s h := by
 subst hc hsp hkp
 exact ⟨⟨2, rfl⟩, hr _ rfl⟩
theorem RUN.sreg {sp : Sp} {kp : List Nat} (hsp : Γ.sp = sp) (hkp : Γ.keep = kp) {ops : List CO} {cf : List (Nat × Nat)} {b : CC} (hc : c = .seq (.reg ops cf) b) (hr : ∀ κ : KT, κ = RUN Γ b k X r → runOps sp kp cf ops κ s h) : RUN Γ c k X r s h := by
 subst hc hsp hkp
 have := hr _ rfl
 rw [RUN_eq] at this
 exact ⟨⟨2, rfl⟩, this⟩
theorem RUN.salt {sp : Sp} {kp : List Nat} (hsp : Γ.sp = sp) (hkp : Γ.keep = kp) {ops : List CO} {cf : List (Nat × Nat)} {l : List (List CO × List (Nat × Nat))} {b : CC} (hc : c = .seq (.alt ops cf l) b) (hr : ∀ κ : KT, κ = RUN Γ b k X r → runOps sp kp cf ops κ s h ∧ allR sp kp l κ s h) : RUN Γ c k X r s h := by
 subst hc hsp hkp
 have h1 := hr _ rfl
 rw [RUN_eq] at h1
 exact ⟨⟨2, rfl⟩, h1⟩
theorem RUN.skip (hc : c = .skip) (hr : k s h) : RUN Γ c k X r s h := by subst hc; exact ⟨⟨2, rfl⟩, hr⟩
theorem RUN.ret (hc : c = .ret) (hr : r s h) : RUN Γ c k X r s h := by subst hc; exact ⟨⟨2, rfl⟩, hr⟩
theorem RUN.cond {x : Go.Abs.X} {a b : CC} (hc : c = .cond x a b) {p : Bool} (hp : xv (look s) x = .bool p) (h1 : p = true → RUN Γ a k X r s h) (h2 : p = false → RUN Γ b k X r s h) : RUN Γ c k X r s h := by
 subst hc
 refine ⟨⟨2, rfl⟩, ?_⟩
 show onB (xv (look s) x) (run Γ a k X r) (run Γ b k X r) s h
 rw [hp]
 exact fork_intro (fun h => (h1 h).out) (fun h => (h2 h).out)
theorem RUN.block {id : Nat} {a : CC} (hc : c = .block id a) (hr : RUN Γ a k ((id, k) :: X) r s h) : RUN Γ c k X r s h := by subst hc; exact ⟨⟨2, rfl⟩, hr.out⟩
theorem RUN.exit {id : Nat} (hc : c = .exit id) (hr : xfind X id s h) : RUN Γ c k X r s h := by subst hc; exact ⟨⟨2, rfl⟩, hr⟩
theorem RUN.loop {k0 : Nat} {inv : Nat → SL → List AO → LI} (hk0 : Γ.k0 = k0) (hinv : Γ.inv = inv) {id : Nat} {k1 : KT} {X' : List (Nat × KT)} {a : CC} (hc : c = .loop a) (hX : X = (id, k1) :: X') {L : LI} (hL : inv id s h = L) (hp : L.peel = false) (hf : L.fin = none)
  (h0 : fits L.ren k0 s h (L.inv L.x0)) (h1 : L.pre L.x0) (hr : ∀ x, L.pre x → ∀ κ : KT, κ = loopK k0 L x → RUN Γ a κ X r (L.inv x).1 (L.inv x).2) : RUN Γ c k X r s h := by
 subst hc hX hk0 hinv hL
 refine ⟨⟨2, rfl⟩, ?_⟩
 show onL Γ ((id, k1) :: X') (fun id => Γ.inv id s h) (run Γ a) r s h
 simp only [onL]
 rw [hp, hf]
 exact ⟨⟨h0, h1⟩, fun x hx => (hr x hx _ rfl).out⟩
theorem RUN.peel {k0 : Nat} {inv : Nat → SL → List AO → LI} (hk0 : Γ.k0 = k0) (hinv : Γ.inv = inv) {id : Nat} {k1 : KT} {X' : List (Nat × KT)} {a : CC} (hc : c = .loop a) (hX : X = (id, k1) :: X') {L : LI} (hL : inv id s h = L) (hp : L.peel = true) (hf : L.fin = none)
  (h0 : ∀ κ : KT, κ = entryK k0 L → RUN Γ a κ X r s h) (hr : ∀ x, L.pre x → ∀ κ : KT, κ = loopK k0 L x → RUN Γ a κ X r (L.inv x).1 (L.inv x).2) : RUN Γ c k X r s h := by
 subst hc hX hk0 hinv hL
 refine ⟨⟨2, rfl⟩, ?_⟩
 show onL Γ ((id, k1) :: X') (fun id => Γ.inv id s h) (run Γ a) r s h
 simp only [onL]
 rw [hp, hf]
 exact ⟨(h0 _ rfl).out, fun x hx => (hr x hx _ rfl).out⟩
theorem RUN.rangeF {x : Go.Abs.X} {ps : List Nat} {a b : CC} (hc : c = .rangeF x ps a b) (hr : run Γ (.rangeF x ps a b) k X r s h) : RUN Γ c k X r s h := by subst hc; exact ⟨⟨2, rfl⟩, hr⟩
theorem FnOK.runS {P : Program} {f N : Nat} {res : List RV} {cc : CC} (o : FnOK P f N res cc) (sp : Sp) (keep : List Nat) (k0 : Nat) (inv : Nat → SL → List AO → LI) (hsp : SpOK P sp) {args : List AV} {h : List AO} {own : Bool} {kn : Nat} {K : AV → List AO → Prop} (hl : args.length ≤ N) (hk0 : k0 = hlen h) (hkn : hlen h ≤ kn)
  (hrun : ∀ Γ : G, Γ.sp = sp → Γ.keep = keep → Γ.k0 = k0 → Γ.inv = inv → ∀ κ : KT, κ = leafK sp res own kn K → RUN Γ cc κ [] κ (argS 0 args) h) : ACalls P f args h K :=
 o.run (Γ := { sp := sp, keep := keep, k0 := k0, inv := inv }) hsp hl hk0 hkn (hrun _ rfl rfl rfl rfl _ rfl).out
theorem FnOK.runI {P : Program} {f N : Nat} {res : List RV} {cc : CC} (o : FnOK P f N res cc) {Γ : G} (hsp : SpOK P Γ.sp) {args : List AV} {h : List AO} {own : Bool} {kn : Nat} {K : AV → List AO → Prop} (hl : args.length ≤ N) (hk0 : Γ.k0 = hlen h) (hkn : hlen h ≤ kn)
  (htn : Γ.tn ≤ N) (hit : ∀ F it, ifind Γ.its F = some it → ITok P (tiOf P) F it) (hrf : Γ.rf = [])
  (hrun : ∀ κ : KT, κ = leafK Γ.sp res own kn K → RUN Γ cc κ [] κ (argS 0 args) h) : ACalls P f args h K :=
 o.run hsp hl hk0 hkn (hrun _ rfl).out htn (fun F hF => by rw [hrf] at hF; exact absurd hF (show ¬ (false = true) from Bool.false_ne_true)) hit
end

def rhoC : List Nat → Nat → Nat → Nat
 | [], k, j => k + j
 | i :: _, _, 0 => i
 | _ :: r, k, j + 1 => rhoC r k j
theorem rhoC_eq : ∀ (ns : List Nat) (k j : Nat), rhoC ns k j = rho ns k j
 | [], k, j => by simp [rhoC, rho]
 | i :: r, k, 0 => by simp [rhoC, rho]
 | i :: r, k, j + 1 => by
   rw [rhoC, rhoC_eq r k j]
   simp only [rho, List.getElem?_cons_succ, List.length_cons]
   split
   ·rfl
   ·omega
def hsetL : List AO → List Nat → List AO → List AO
 | h, i :: ns, o :: os => hsetL (hset h i o) ns os
 | h, [], _ => h
 | h, _ :: _, [] => h
def happ : List AO → List AO → List AO
 | h, [] => h
 | h, o :: m => happ (hsnoc h o) m
theorem happ_eq : ∀ (h m : List AO), happ h m = h ++ m
 | h, [] => by simp [happ]
 | h, o :: m => by rw [happ, happ_eq, hsnoc_eq]; simp
def happO : List AO → List AO → List AO
 | [], m => m
 | o :: l, m => o :: happO l m
theorem happO_eq : ∀ (h m : List AO), happO h m = h ++ m
 | [], m => rfl
 | o :: l, m => by simp [happO, happO_eq l m]
def inC : List Nat → Nat → Bool
 | [], _ => false
 | j :: r, i => match Nat.beq j i with | true => true | false => inC r i
def nodupC : List Nat → Bool
 | [] => true
 | i :: r => match inC r i with | true => false | false => nodupC r
theorem inC_false : ∀ {r : List Nat} {i : Nat}, inC r i = false → i ∉ r
 | [], _, _ => by simp
 | j :: r, i, h => by
   simp only [inC] at h
   split at h
   ·cases h
   ·rename_i hb
    intro hm
    rcases List.mem_cons.1 hm with rfl | hm
    ·simp at hb
    ·exact inC_false h hm
theorem nodupC_ok : ∀ {ns : List Nat}, nodupC ns = true → ns.Nodup
 | [], _ => List.nodup_nil
 | i :: r, h => by
   simp only [nodupC] at h
   split at h
   ·cases h
   ·rename_i hb
    exact List.nodup_cons.2 ⟨inC_false hb, nodupC_ok h⟩
theorem appN_eq : ∀ (l m : List Nat), appN l m = l ++ m
 | [], m => rfl
 | a :: l, m => by simp [appN, appN_eq l m]
theorem hsetL_len : ∀ (ns : List Nat) (os h : List AO), (hsetL h ns os).length = h.length
 | [], os, h => by cases os <;> simp [hsetL]
 | _ :: _, [], h => by simp [hsetL]
 | i :: ns, o :: os, h => by rw [hsetL, hsetL_len ns os, hset_eq]; simp
theorem hsetL_old : ∀ (ns : List Nat) (os h : List AO) (k : Nat), k ∉ ns → (hsetL h ns os)[k]? = h[k]?
 | [], os, h, k, _ => by cases os <;> simp [hsetL]
 | _ :: _, [], h, k, _ => by simp [hsetL]
 | i :: ns, o :: os, h, k, hk => by
   simp only [List.mem_cons, not_or] at hk
   rw [hsetL, hsetL_old ns os _ k hk.2, hset_eq, List.getElem?_set_ne (fun e => hk.1 e.symm)]
theorem hsetL_own : ∀ (ns : List Nat) (os h : List AO), ns.Nodup → ns.length = os.length → (∀ i ∈ ns, i < h.length) → ∀ (j i : Nat), ns[j]? = some i → (hsetL h ns os)[i]? = os[j]?
 | [], os, h, _, _, _, j, i, hj => by simp at hj
 | i0 :: ns, [], h, _, hl, _, _, _, _ => by simp at hl
 | i0 :: ns, o :: os, h, hnd, hl, hlt, j, i, hj => by
   rw [List.nodup_cons] at hnd
   rw [hsetL]
   cases j with
   | zero =>
     simp at hj; subst hj
     rw [hsetL_old ns os _ _ hnd.1, hset_eq, List.getElem?_set_self (hlt _ (by simp))]
     simp
   | succ j =>
     rw [hsetL_own ns os _ hnd.2 (by simpa using hl) (fun i hi => by rw [hset_eq, List.length_set]; exact hlt i (by simp [hi])) j i (by simpa using hj)]
     simp
theorem hsetL_tell (h : List AO) : ∀ (ns : List Nat) (os : List AO), ns.Nodup → ns.length = os.length → (∀ (j i : Nat) (o : AO), ns[j]? = some i → os[j]? = some o → ∃ o', h[i]? = some o' ∧ o'.ep = o.ep ∧ o'.fz = o.fz ∧ TellC o'.c o.c) → TellH h (hsetL h ns os) := by
 intro ns os hnd hl hh
 have key : ∀ (l m : List AO), l.length = m.length → (∀ (k : Nat) (a b : AO), l[k]? = some a → m[k]? = some b → a.ep = b.ep ∧ a.fz = b.fz ∧ TellC a.c b.c) → TellH l m := fun l => by
  induction l with
  | nil => intro m hm _; cases m with | nil => trivial | cons => simp at hm
  | cons a l ih =>
    intro m hm hk
    cases m with
    | nil => simp at hm
    | cons b m => exact ⟨hk 0 a b rfl rfl, ih m (by simpa using hm) (fun k x y hx hy => hk (k + 1) x y (by simpa using hx) (by simpa using hy))⟩
 refine key _ _ (hsetL_len ns os h).symm fun k a b ha hb => ?_
 by_cases hk : k ∈ ns
 ·obtain ⟨j, hj, rfl⟩ := List.getElem_of_mem hk
  have hjs : ns[j]? = some ns[j] := List.getElem?_eq_getElem hj
  have hlt : ∀ i ∈ ns, i < h.length := fun i hi => by
   obtain ⟨j', hj', rfl⟩ := List.getElem_of_mem hi
   obtain ⟨o', h1, _⟩ := hh j' _ os[j'] (List.getElem?_eq_getElem hj') (List.getElem?_eq_getElem (by omega))
   exact (List.getElem?_eq_some_iff.1 h1).1
  rw [hsetL_own ns os h hnd hl hlt j _ hjs] at hb
  obtain ⟨o', h1, h2, h3, h4⟩ := hh j _ b hjs hb
  rw [ha] at h1; cases h1
  exact ⟨h2, h3, h4⟩
 ·rw [hsetL_old ns os h k hk, ha] at hb
  cases hb
  exact ⟨rfl, rfl, TellC.refl _⟩

structure Vw (α : Type) where
 n : Nat
 get : List AO → AV → Option (List Nat × Option Prop × α)
 arg : α → (Nat → Nat) → AV
 obj : α → (Nat → Nat) → List AO
 len : ∀ x σ, (obj x σ).length = n
 renA : ∀ x ρ σ, ren ρ (arg x σ) = arg x (fun j => ρ (σ j))
 renH : ∀ x ρ σ, (obj x σ).map (renO ρ) = obj x (fun j => ρ (σ j))
 ok : ∀ h a ns C x, get h a = some (ns, C, x) → holds C → ns.length = n ∧ ∀ σ : Nat → Nat, (∀ j, j < n → ns[j]? = some (σ j)) → Tell a (arg x σ) ∧ ∀ j o, (obj x σ)[j]? = some o → ∃ o', h[σ j]? = some o' ∧ o'.ep = o.ep ∧ o'.fz = o.fz ∧ TellC o'.c o.c
structure VL (α : Type) where
 n : Nat
 get : List AO → List AV → Option (List Nat × Option Prop × α)
 arg : α → (Nat → Nat) → List AV
 obj : α → (Nat → Nat) → List AO
 len : ∀ x σ, (obj x σ).length = n
 renA : ∀ x ρ σ, renL ρ (arg x σ) = arg x (fun j => ρ (σ j))
 renH : ∀ x ρ σ, (obj x σ).map (renO ρ) = obj x (fun j => ρ (σ j))
 ok : ∀ h a ns C x, get h a = some (ns, C, x) → holds C → ns.length = n ∧ ∀ σ : Nat → Nat, (∀ j, j < n → ns[j]? = some (σ j)) → TellL a (arg x σ) ∧ ∀ j o, (obj x σ)[j]? = some o → ∃ o', h[σ j]? = some o' ∧ o'.ep = o.ep ∧ o'.fz = o.fz ∧ TellC o'.c o.c
def nilG (_ : List AO) : List AV → Option (List Nat × Option Prop × Unit)
 | [] => some ([], none, ())
 | _ => none
def nilO (_ : Unit) (_ : Nat → Nat) : List AO := []
def consG {α β : Type} (g : List AO → AV → Option (List Nat × Option Prop × α)) (l : List AO → List AV → Option (List Nat × Option Prop × β)) (h : List AO) : List AV → Option (List Nat × Option Prop × (α × β))
 | a :: as => match g h a with
   | some (ns, C, x) => match l h as with
     | some (ms, D, y) => some (appN ns ms, both C D, (x, y))
     | none => none
   | none => none
 | [] => none
def consO {α β : Type} (n : Nat) (o : α → (Nat → Nat) → List AO) (l : β → (Nat → Nat) → List AO) (x : α × β) (σ : Nat → Nat) : List AO := happO (o x.1 σ) (l x.2 (fun j => σ (n + j)))
def valG {α : Type} (d : AV → Option α) (_ : List AO) (a : AV) : Option (List Nat × Option Prop × α) := match d a with | some x => some ([], none, x) | none => none
def valO {α : Type} (_ : α) (_ : Nat → Nat) : List AO := []
def VL.nil : VL Unit where
 n := 0
 get := nilG
 arg _ _ := []
 obj := nilO
 len _ _ := rfl
 renA _ _ _ := rfl
 renH _ _ _ := rfl
 ok h a ns C x he _ := by
  cases a with
  | nil => cases he; exact ⟨rfl, fun σ _ => ⟨trivial, fun j o hj => by simp [nilO] at hj⟩⟩
  | cons => cases he
def VL.cons {α β : Type} (v : Vw α) (l : VL β) : VL (α × β) where
 n := v.n + l.n
 get := consG v.get l.get
 arg x σ := v.arg x.1 σ :: l.arg x.2 (fun j => σ (v.n + j))
 obj := consO v.n v.obj l.obj
 len x σ := by rw [consO, happO_eq, List.length_append, v.len, l.len]
 renA x ρ σ := by simp only [renL, v.renA, l.renA]
 renH x ρ σ := by simp only [consO, happO_eq, List.map_append, v.renH, l.renH]
 ok h a ns C x he hC := by
  cases a with
  | nil => cases he
  | cons a as =>
    simp only [consG] at he
    split at he
    ·rename_i ns1 C1 x1 h1
     split at he
     ·rename_i ns2 C2 x2 h2
      cases he
      obtain ⟨c1, c2⟩ := holds_both.1 hC
      obtain ⟨k1, k2⟩ := v.ok h a ns1 C1 x1 h1 c1
      obtain ⟨m1, m2⟩ := l.ok h as ns2 C2 x2 h2 c2
      rw [appN_eq]
      refine ⟨by rw [List.length_append, k1, m1], fun σ hσ => ?_⟩
      obtain ⟨p1, p2⟩ := k2 σ (fun j hj => by have := hσ j (by omega); rwa [List.getElem?_append_left (by omega)] at this)
      obtain ⟨q1, q2⟩ := m2 (fun j => σ (v.n + j)) (fun j hj => by have := hσ (v.n + j) (by omega); rwa [List.getElem?_append_right (by omega), k1, Nat.add_sub_cancel_left] at this)
      refine ⟨⟨p1, q1⟩, fun j o hj => ?_⟩
      simp only [consO, happO_eq] at hj
      rcases Nat.lt_or_ge j v.n with hlt | hge
      ·rw [List.getElem?_append_left (by rw [v.len]; exact hlt)] at hj
       exact p2 j o hj
      ·rw [List.getElem?_append_right (by rw [v.len]; exact hge), v.len] at hj
       have := q2 (j - v.n) o hj
       rwa [show v.n + (j - v.n) = j by omega] at this
     ·cases he
    ·cases he
def Vw.val {α : Type} (k : Kd α) : Vw α where
 n := 0
 get := valG k.dec
 arg x _ := k.enc x
 obj := valO
 len _ _ := rfl
 renA x ρ σ := ren_below _ (k.below x)
 renH _ _ _ := rfl
 ok h a ns C x he _ := by
  simp only [valG] at he
  split at he
  ·rename_i y hy
   cases he
   exact ⟨rfl, fun σ _ => ⟨k.tell _ _ hy, fun j o hj => by simp [valO] at hj⟩⟩
  ·cases he
def evL {α : Type} (get : List AO → List AV → Option (List Nat × Option Prop × α)) (obj : α → (Nat → Nat) → List AO) (pre : α → Prop) (out : α → (Nat → Nat) → AV) (nxt : α → α) (more : α → (Nat → Nat) → List AO) (xs : List AV) (h : List AO) : ER :=
 match get h xs with
 | some (ns, C, x) => match nodupC ns with
   | true => .e (both C (some (pre x))) (out x (rhoC ns (hlen h))) (happ (hsetL h ns (obj (nxt x) (rhoC ns (hlen h)))) (more x (rhoC ns (hlen h))))
   | false => .no
 | none => .no
def noMore {α : Type} (_ : α) (_ : Nat → Nat) : List AO := []
theorem evL_ok {P : Program} {g : FuncId} {α : Type} (V : VL α) {pre : α → Prop} {out : α → (Nat → Nat) → AV} {nxt : α → α} {more : α → (Nat → Nat) → List AO} {fz : Bool}
  (ho : ∀ x ρ, ren ρ (out x id) = out x ρ) (hm : ∀ x ρ, (more x id).map (renO ρ) = more x ρ)
  (hc : ∀ x, pre x → ACalls P g (V.arg x id) (V.obj x id) (fun r hh => r = out x id ∧ hh = V.obj (nxt x) id ++ more x id)) : SpE.ok P g ⟨fz, evL V.get V.obj pre out nxt more⟩ := by
 intro args h
 show match evL V.get V.obj pre out nxt more args h with | .v C A => _ | .e C A h1 => _ | .k C h1 => _ | .no => _
 unfold evL
 split
 ·rename_i C A he; (repeat' split at he) <;> cases he
 ·rename_i C A h1 he
  split at he
  ·rename_i ns C' x hx
   split at he
   ·rename_i hnd
    cases he
    intro hC
    obtain ⟨c1, c2⟩ := holds_both.1 hC
    have hnd := nodupC_ok hnd
    obtain ⟨k1, k2⟩ := V.ok h args ns C' x hx c1
    have eρ : rhoC ns (hlen h) = rho ns h.length := by funext j; rw [rhoC_eq, hlen_eq]
    rw [eρ]
    generalize hσ : rho ns h.length = σ
    have hs : ∀ j, j < V.n → ns[j]? = some (σ j) := fun j hj => by
     have hj' : ns[j]? = some ns[j] := List.getElem?_eq_getElem (by omega)
     rw [hj', ← hσ]; simp only [rho, hj']
    obtain ⟨p1, p2⟩ := k2 σ hs
    have hl : ns.length = (V.obj x σ).length := by rw [V.len, k1]
    have hl' : ns.length = (V.obj (nxt x) σ).length := by rw [V.len, k1]
    have own : ∀ (j i : Nat) (o : AO), ns[j]? = some i → (V.obj x σ)[j]? = some o → ∃ o', h[i]? = some o' ∧ o'.ep = o.ep ∧ o'.fz = o.fz ∧ TellC o'.c o.c := fun j i o hj hjo => by
     have := hs j (by rw [← k1]; exact (List.getElem?_eq_some_iff.1 hj).1)
     rw [hj] at this; cases this
     exact p2 j o hjo
    have hlt : ∀ i ∈ ns, i < h.length := fun i hi => by
     obtain ⟨j', hj', rfl⟩ := List.getElem_of_mem hi
     obtain ⟨o', h1, _⟩ := own j' _ (V.obj x σ)[j'] (List.getElem?_eq_getElem hj') (List.getElem?_eq_getElem (by omega))
     exact (List.getElem?_eq_some_iff.1 h1).1
    refine ACalls.said p1 (ACalls.heap (hsetL_tell h ns (V.obj x σ) hnd hl own) ?_)
    have e2 : rho ns (hsetL h ns (V.obj x σ)).length = σ := by rw [hsetL_len, hσ]
    have := acalls_local (P := P) (f := g) (ns := ns) (h := hsetL h ns (V.obj x σ)) (h1 := V.obj x id) (h1' := V.obj (nxt x) id ++ more x id) (h' := happ (hsetL h ns (V.obj (nxt x) σ)) (more x σ)) (args1 := V.arg x id) (args := V.arg x σ) (R1 := out x id)
     hnd (by rw [e2, V.renA]; rfl) (by rw [V.len, k1]) (fun j o1 hj => by
      rw [e2]
      have hjn : j < V.n := by have := (List.getElem?_eq_some_iff.1 hj).1; rwa [V.len] at this
      rw [hsetL_own ns (V.obj x σ) h hnd hl hlt j (σ j) (hs j hjn)]
      have := V.renH x σ id
      rw [show V.obj x σ = (V.obj x id).map (renO σ) from this.symm, List.getElem?_map, hj]; rfl) (hc x c2)
     ⟨by rw [happ_eq, List.length_append, hsetL_len, hsetL_len, List.length_append, V.len]
         have : (more x σ).length = (more x id).length := by rw [← hm x σ, List.length_map]
         omega, by rw [List.length_append, V.len, k1]; omega, fun i hi hni => by
          rw [happ_eq, List.getElem?_append_left (by rw [hsetL_len]; rw [hsetL_len] at hi; exact hi), hsetL_old _ _ _ _ hni, hsetL_old _ _ _ _ hni], fun j hj => by
         rw [e2, happ_eq]
         rcases Nat.lt_or_ge j V.n with hjn | hjn
         ·have hj2 := hs j hjn
          rw [List.getElem?_append_left (by rw [hsetL_len]; exact hlt _ (List.mem_of_getElem? hj2)), hsetL_own ns _ h hnd hl' hlt j (σ j) hj2, List.getElem?_append_left (by rw [V.len]; exact hjn)]
          rw [show V.obj (nxt x) σ = (V.obj (nxt x) id).map (renO σ) from (V.renH (nxt x) σ id).symm, List.getElem?_map]
         ·have es : σ j = h.length + (j - V.n) := by
           rw [← hσ]; simp only [rho, List.getElem?_eq_none_iff.2 (show ns.length ≤ j by omega)]; omega
          rw [es, List.getElem?_append_right (by rw [hsetL_len]; omega), hsetL_len, Nat.add_sub_cancel_left, List.getElem?_append_right (by rw [V.len]; exact hjn), V.len, ← hm x σ, List.getElem?_map]⟩
    rw [e2, ho] at this
    exact this
   ·cases he
  ·cases he
 ·rename_i C h1 he; (repeat' split at he) <;> cases he
 ·trivial
def orE (a b : List AV → List AO → ER) (xs : List AV) (h : List AO) : ER := match a xs h with
 | .no => b xs h
 | r => r
theorem orE_ok {P : Program} {g : FuncId} {a b : List AV → List AO → ER} {fz f1 f2 : Bool} (ha : SpE.ok P g ⟨f1, a⟩) (hb : SpE.ok P g ⟨f2, b⟩) : SpE.ok P g ⟨fz, orE a b⟩ := by
 intro args h
 have h1 := ha args h
 have h2 := hb args h
 simp only at h1 h2
 show match orE a b args h with | .v C A => holds C → ACalls P g args h (fun r h' => r = A ∧ h' = h) | .e C A h1 => holds C → ACalls P g args h (fun r h' => r = A ∧ h' = h1) | .k _ _ => False | .no => True
 unfold orE
 cases hr : a args h with
 | no => simp only; exact h2
 | v C A => rw [hr] at h1; exact h1
 | e C A h' => rw [hr] at h1; exact h1
 | k C h' => rw [hr] at h1; exact h1
theorem ACalls.freeze {P : Program} {f : FuncId} {args : List AV} {h : List AO} {K K' : AV → List AO → Prop} (hc : ACalls P f args h K)
  (hk : ∀ r h1, K r h1 → ∃ C r' h' kn, frzL h1 [r] = some (C, [r'], h') ∧ holds C ∧ h.length ≤ kn ∧ kn ≤ h'.length ∧ hbelow kn (htake h' kn) = true ∧ belowL kn [r'] = true ∧ K' r' (htake h' kn)) : ACalls P f args h K' := by
 intro E w vs hvs m
 refine Calls.mono (hc E w vs hvs m) fun e w' hh => ?_
 obtain ⟨v, r, h1, E', q1, q2, q3, q4, q5⟩ := hh
 obtain ⟨C, r', h', kn, k1, k2, k3, k4, k5, k6, k7⟩ := hk r h1 q2
 obtain ⟨E1, _, p2, p3⟩ := frzL_ok [r] h1 E' q4 k1 k2 [v] (by simp only [relL]; exact ⟨v, [], rfl, q5, rfl⟩)
 rw [htake_eq] at k5 k7
 refine ⟨v, r', _, _, q1, k7, by simp; omega, p2.drop k5 (fun i hi => (m.fresh i (by omega)).1), ?_⟩
 have := belowL_relL k6 p3
 simp only [relL] at this
 obtain ⟨u, us, h1, h2, rfl⟩ := this
 cases h1
 exact h2
theorem leaf_true {sp : Sp} {j : Nat} {S : SL} {H : List AO} (hS : look S j = .bool true) : leafK sp [.t j] false 0 (fun a h => a = .bool true ∧ h = []) S H := by
 cases H with
 | nil =>
   simp only [leafK, resv, hS, ownF, frzL, frzV, frzR, both, hlen, Nat.beq, conj, one]
   and_intros <;> first | rfl | trivial
 | cons o H =>
   simp only [leafK, resv, hS, ownF, frzL, frzV, frzR, both, hlen, Nat.beq, conj, one, htake, hbelow, belowL, below]
   and_intros <;> first | rfl | trivial | exact Nat.zero_le _
attribute [go_sem ↓] fork_true fork_false
attribute [go_sem] run runOps onER doOp noOp ifB onG onGd onB onL xfB lookB chkC evc keptR sameR vOnly ev evBin evUn evEq evConv evSlice evApp appSl appMs evCall sfind srcS rdS nilK ctakeT0 eq1 eqs shn ngt xv xvs xi look Go.Abs.put trim conj both argS leafK resv one one1 ofC frzL frzV hasMs hasMsL hlen hget hset hsnoc htake lget ldrop ltake lset lapp lput llen lrep cget csub cexp exU8 exU32 exInt cset cput capp clen toC csubT ctakeT cdropT celT mulz typed ab? ai? au? zeros lay lenS offS fulS cutS cutT bnds below belowL hbelow sbelow xfind fits eqS eqH eqO loopK sameS sameH SameL Nat.beq Nat.ble G0 GL ev0 ev1 ev2 ev3 ev4 intD u32D u8D boolD strD byD numD intsD By.A Num.C sp0 s0f objOf peelB startK entryK finB allX andE GK GKL GR onR rfind noR fdShape elT allN endR retR failK rangeP Nat.blt evP l0D l1D l2D frzI frzR ownF frzC frzA frzJ allFz nestL onRI onIo onI runI runOpsY onGdY onGY ifBY doY doYo dynB isDyn shS unS unSb kys appN appS bindP ltAll nlen yieldK yieldM finI finM ifind ifindB nodupN inN nget sameO emptyC fget fset fdrop ftake fput fvD fvDL rowP ldP1 ldPN stP1 stPN stPZ isRw elP normF mapA FV.A flen
structure Hid (Q : Prop) : Prop where
 out : Q
theorem rn {P : Prop} (h : P := by (try dsimp only [nodupN, inN, nget, sameS, sameH, sameO, SameL, look, lookB, hget, hlen, emptyC, Nat.beq, Nat.ble]) <;> and_intros <;> first | trivial | rfl | exact .inl rfl | exact .refl rfl | exact .inl ⟨rfl, rfl⟩ | exact .ms rfl rfl rfl rfl rfl | exact .ptr rfl rfl rfl rfl rfl | exact .any | exact .nil | exact .nilm | exact .bf ⟨.ptr rfl rfl rfl rfl rfl, trivial⟩ | exact .fn ⟨.ptr rfl rfl rfl rfl rfl, trivial⟩ | exact .inr ⟨rfl, rfl⟩ | exact SameC.agg ⟨.refl rfl, .tell (byD_tell _ ⟨true, []⟩ rfl) rfl, trivial⟩ | exact .tell (tellC_rw0 _ _) rfl | exact .tell (tellC_snoc rfl) rfl | exact SameC.agg (by (try dsimp only [SameL]); and_intros <;> first | trivial | exact .refl rfl | exact .ms rfl rfl rfl rfl rfl | exact .ptr rfl rfl rfl rfl rfl | exact .nil | exact .nilm | exact .any)) : P := h
section
variable {P : Program} {f : FuncId} {args : List AV}

theorem ACalls.own {nl : Bool} {l : List UInt8} (hc : ACalls P f args [] (fun r h => (byD r = some ⟨true, []⟩ ∧ h = [] ∧ nl = true ∧ l = []) ∨ (∃ e, r = .ms false 0 e 0 l.length 1 ∧ h = [⟨e, .ab l, false⟩] ∧ nl = false))) :
  ACalls P f args [] (fun r h => r = .ob nl l ∧ h = []) := by
 intro E w vs hvs m
 refine Calls.mono (hc E w vs hvs m) fun e w' hh => ?_
 obtain ⟨v, r, h', E', rfl, hK, hl, m', hr⟩ := hh
 rcases hK with ⟨h1, rfl, rfl, rfl⟩ | ⟨e, rfl, rfl, rfl⟩
 ·have hr' := byD_tell _ _ h1 E' v hr
  refine ⟨v, .ob true [], [], E', rfl, ⟨rfl, rfl⟩, hl, m', ?_⟩
  simp only [rel, By.A, if_true] at hr'
  simp only [rel, relO8, if_true]
  exact ⟨hr'.1, trivial⟩
 ·have hE : ∀ i, E.ι i = none := fun i => (m.fresh i (Nat.zero_le _)).1
  obtain ⟨hep, b, s, hι, hrow⟩ := m'.obj 0 _ rfl
  simp only [rel, Bool.false_eq_true, if_false] at hr
  obtain ⟨_, _, a, cap, rfl, hcap, hr⟩ := hr
  obtain ⟨b', s', k1, k2, k3⟩ := hr hep.symm
  rw [hι] at k1; cases k1
  by_cases hl0 : l = []
  ·subst hl0
   refine ⟨_, .ob false [], [], E'.cut 0, rfl, ⟨rfl, rfl⟩, Nat.le_refl _, m'.drop (k := 0) rfl (fun i _ => hE i), ?_⟩
   simp only [rel, relO8, Bool.false_eq_true, if_false]
   exact ⟨a, cap, [], rfl, hcap, .inl rfl, rfl⟩
  ·have hpos : 0 < l.length := List.length_pos_iff.2 hl0
   rcases hrow with ⟨_, hr0⟩ | ⟨hf, _⟩ | ⟨_, hs, cur, T, fr, us, post, g1, g2, g3, g4, g5, g6, g7⟩
   ·simp only [relC] at hr0
    exact absurd (List.map_eq_nil_iff.1 hr0.symm) hl0
   ·cases hf
   ·simp only [relC] at g5
    subst g5
    have ha : a = ⟨b, 0, none⟩ := by
     rcases k2 with k2 | k2
     ·omega
     ·exact k2
    subst ha
    have hb1 : byteN 1 cur := by
     have hlen : cur.size = l.length + post.length := by rw [← Array.length_toList, g4]; simp
     refine ⟨by omega, fun k hk => ?_⟩
     obtain rfl : k = 0 := by omega
     refine ⟨l[0], ?_⟩
     rw [← Array.getElem?_toList, g4, List.getElem?_append_left (by simpa using hpos)]
     simp [List.getElem?_eq_getElem hpos]
    let E2 : Env := { p := (E'.keep b cur).p, ι := fun _ => none, ep := fun _ => 0, ow := fun k => E'.ow k ∨ k = b, wl := E'.wl }
    have hp : ∀ k cs, E'.p k = some cs → E2.p k = some cs := fun k cs hk => by
     show (E'.keep b cur).p k = _
     simp only [Env.keep]
     rw [if_neg (fun e => by subst e; rw [g6] at hk; cases hk)]; exact hk
    have hbb : E2.p b = some cur := by show (E'.keep b cur).p b = _; simp [Env.keep]
    have hne : ∀ k, k ≠ b → E2.p k = E'.p k := fun k hk => by
     show (E'.keep b cur).p k = _
     simp only [Env.keep]; rw [if_neg hk]
    have hnw : ∀ k, E'.wl k ≠ 0 → k ≠ b := fun k hk e => absurd rfl ((m'.xt.wl b (e ▸ hk)).2.2.2 0 _ b s rfl rfl hι hs)
    refine ⟨_, .ob false l, [], E2, rfl, ⟨rfl, rfl⟩, Nat.le_refl _, ⟨⟨fun k cs hk => hp k cs (m'.le.p k cs hk), fun i hi => absurd (hE i) hi, fun k hk => .inl (m'.le.ow k hk), m'.le.wl⟩, m'.size, m'.os, m'.tape, m'.output, m'.keeps, fun k cs hk => ?_, fun i ob hi => by simp at hi, fun i j oi oj b s t hi => by simp at hi, fun k hk => ?_, fun _ _ => ⟨rfl, rfl⟩, fun i _ => hE i, ⟨fun k hk => ?_, fun k hk => ?_⟩⟩, ?_⟩
    ·by_cases e : k = b
     ·subst e; rw [hbb] at hk; cases hk; exact ⟨T, fr, g1⟩
     ·rw [hne k e] at hk; exact m'.sat k cs hk
    ·by_cases e : k = b
     ·subst e; exact .inr g7
     ·rw [hne k e] at hk; exact m'.newP k hk
    ·rcases hk with hk | rfl
     ·obtain ⟨q1, cs, T', fr', q2, q3⟩ := m'.xt.ow k hk
      exact ⟨q1, cs, T', fr', hp k cs q2, q3⟩
     ·exact ⟨.inr g7, cur, T, fr, hbb, g1, by rw [g2]; exact g3, hb1⟩
    ·obtain ⟨q1, q2, q3, _⟩ := m'.xt.wl k hk
     exact ⟨q1, q2, by rw [hne k (hnw k hk)]; exact q3, fun i ob b' s hi => by simp at hi⟩
    ·simp only [rel, relO8, Bool.false_eq_true, if_false]
     exact ⟨_, cap, _, rfl, hcap, .inr ⟨b, rfl, ⟨cur, [], post, hbb, by simpa using g4, rfl⟩, .inr rfl⟩, rfl⟩

mutual
def wkV : AV → AV
 | .ob _ l => .wsl l.length
 | .agg l => .agg (wkL l)
 | .tup l => .tup (wkL l)
 | .int n => .int n | .u8 x => .u8 x | .u32 x => .u32 x | .u64 x => .u64 x | .bool b => .bool b | .str l => .str l | .nilp => .nilp | .ab l => .ab l | .ai l => .ai l | .au l => .au l
 | _ => .any
def wkL : List AV → List AV
 | [] => []
 | a :: l => wkV a :: wkL l
end
open Classical in
noncomputable def n8 (cs : Array Value) : Nat := (cs.toList.takeWhile fun v => decide (∃ x, v = u8v x)).length
theorem n8_ok (cs : Array Value) : byteN (n8 cs) cs := by
 classical
 have hle : n8 cs ≤ cs.toList.length := by unfold n8; exact (List.takeWhile_prefix _).length_le
 refine ⟨by simpa using hle, fun k hk => ?_⟩
 have h1 : (cs.toList.takeWhile fun v => decide (∃ x, v = u8v x))[k]? = cs.toList[k]? := by
  obtain ⟨t, ht⟩ := List.takeWhile_prefix (fun v => decide (∃ x, v = u8v x)) (l := cs.toList)
  conv => rhs; rw [← ht]
  rw [List.getElem?_append_left hk]
 have h2 : (cs.toList.takeWhile fun v => decide (∃ x, v = u8v x))[k]? = some (cs.toList.takeWhile fun v => decide (∃ x, v = u8v x))[k] := List.getElem?_eq_getElem hk
 have h3 := List.all_eq_true.1 (List.all_takeWhile (l := cs.toList) (p := fun v => decide (∃ x, v = u8v x))) _ (List.getElem_mem hk)
 obtain ⟨x, hx⟩ := of_decide_eq_true h3
 exact ⟨x, by rw [← Array.getElem?_toList, ← h1, h2, hx]⟩
theorem n8_ge {cs : Array Value} {l : List UInt8} {post : List Value} (h : cs.toList = l.map u8v ++ post) : l.length ≤ n8 cs := by
 classical
 unfold n8
 rw [h, List.takeWhile_append_of_pos (fun v hv => by
  obtain ⟨x, _, rfl⟩ := List.mem_map.1 hv
  exact decide_eq_true ⟨x, rfl⟩)]
 simp
theorem n8_one {cs : Array Value} (h : byteN 1 cs) : 1 ≤ n8 cs := by
 obtain ⟨h1, h2⟩ := h
 obtain ⟨x, hx⟩ := h2 0 (by omega)
 have : ∃ post, cs.toList = [x].map u8v ++ post := by
  cases hc : cs.toList with
  | nil => rw [← Array.getElem?_toList, hc] at hx; simp at hx
  | cons a l => rw [← Array.getElem?_toList, hc] at hx; simp at hx; exact ⟨l, by rw [hx]; rfl⟩
 obtain ⟨post, hp⟩ := this
 exact n8_ge hp

def Plain (args : List AV) : Prop := ∀ E E' : Env, E'.p = E.p → E'.ι = E.ι → E'.ep = E.ep → ∀ vs, relL E args vs → relL E' args vs
theorem ACalls.wild {K : AV → Prop} (hargs : Plain args) (hc : ACalls P f args [] (fun r h => K r ∧ h = [])) : ACalls P f args [] (fun r h => (∃ r0, K r0 ∧ r = wkV r0) ∧ h = []) := by
 classical
 intro E w vs hvs m
 let E0 : Env := { E with ow := fun _ => False, wl := fun _ => 0 }
 have m0 : Mem ⟨w, E0, fun b => (∃ i ob s, ([] : List AO)[i]? = some ob ∧ ob.fz = false ∧ E0.ι i = some (b, s) ∧ 0 < s) ∨ E0.wl b ≠ 0, noX⟩ E0 [] w :=
  ⟨Env.le.refl _, Nat.le_refl _, rfl, rfl, rfl, fun _ _ _ => rfl, m.sat, fun i ob hi => by simp at hi, fun i j oi oj b s t hi => by simp at hi, fun b hb => .inl hb, m.fresh, fun i hi => (m.fresh i hi).1, ⟨fun b hb => hb.elim, fun b hb => absurd rfl hb⟩⟩
 refine Calls.mono (hc E0 w vs (hargs E E0 rfl rfl rfl vs hvs) m0) fun e w' hh => ?_
 obtain ⟨v, r, h', E1, rfl, ⟨hK, rfl⟩, hl, m1, hr⟩ := hh
 have hM : ∀ b, ¬ ((∃ i ob s, ([] : List AO)[i]? = some ob ∧ ob.fz = false ∧ E0.ι i = some (b, s) ∧ 0 < s) ∨ E0.wl b ≠ 0) := fun b hb => by
  rcases hb with ⟨i, ob, s, h1, _⟩ | hb
  ·simp at h1
  ·exact hb rfl
 have old : ∀ b, b < w.heap.size → w'.heap[b]? = w.heap[b]? := fun b hb => m1.keeps b hb (hM b)
 have hnew : ∀ b, E1.ow b → w.heap.size ≤ b := fun b hb => by
  rcases (m1.xt.ow b hb).1 with h | h | h
  ·exact h.elim
  ·exact h
  ·exact absurd h (hM b)
 let sz : Nat → Nat := fun b => match w'.heap[b]? with | some (.cells cs _ _) => n8 cs | _ => 0
 let E2 : Env := { p := fun b => if E1.ow b then none else E1.p b, ι := E1.ι, ep := E1.ep, ow := E.ow, wl := fun b => if E1.ow b then sz b else E.wl b }
 have hp2 : ∀ b, ¬ E1.ow b → E2.p b = E1.p b := fun b hb => if_neg hb
 have hw2 : ∀ b, ¬ E1.ow b → E2.wl b = E.wl b := fun b hb => if_neg hb
 have hno : ∀ b, b < w.heap.size → ¬ E1.ow b := fun b hb h => by have := hnew b h; omega
 have hsz : ∀ b cs T fr, w'.heap[b]? = some (.cells cs T fr) → sz b = n8 cs := fun b cs T fr hb => by show (match w'.heap[b]? with | some (.cells cs _ _) => n8 cs | _ => 0) = _; rw [hb]
 refine ⟨v, wkV r, [], E2, rfl, ⟨⟨r, hK, rfl⟩, rfl⟩, Nat.le_refl _, ⟨⟨fun b cs hb => ?_, fun i hi => m1.le.ι i hi, fun _ h => h, fun b hb => ?_⟩, m1.size, m1.os, m1.tape, m1.output, fun b hb _ => m1.keeps b hb (hM b), fun b cs hb => ?_, fun i ob hi => by simp at hi, fun i j oi oj b s t hi => by simp at hi, fun b hb => ?_, m1.fresh, m1.base, ⟨fun b hb => ?_, fun b hb => ?_⟩⟩, ?_⟩
 ·rw [hp2 b (hno b (m.block_lt hb))]; exact m1.le.p b cs hb
 ·exact hw2 b (hno b (m.xt.lt (.inr hb)))
 ·by_cases h : E1.ow b
  ·have : E2.p b = none := if_pos h
   rw [this] at hb; cases hb
  ·rw [hp2 b h] at hb; exact m1.sat b cs hb
 ·by_cases h : E1.ow b
  ·exact absurd (if_pos h) hb
  ·rw [hp2 b h] at hb
   rcases m1.newP b hb with h1 | h1 | h1
   ·exact .inl h1
   ·exact .inr (.inl h1)
   ·exact absurd h1 (hM b)
 ·obtain ⟨_, cs, T, fr, h2, h3, h4⟩ := m.xt.ow b hb
  have hlt := m.xt.lt (.inl hb)
  exact ⟨.inl hb, cs, T, fr, by rw [hp2 b (hno b hlt)]; exact m1.le.p b cs h2, by rw [old b hlt]; exact h3, h4⟩
 ·by_cases h : E1.ow b
  ·obtain ⟨_, cs, T, fr, h2, h3, h4, h5⟩ := m1.xt.ow b h
   have e : E2.wl b = n8 cs := (if_pos h).trans (hsz b cs T fr h3)
   exact ⟨.inl (hnew b h), ⟨cs, T, fr, h3, h4, by rw [e]; exact n8_ok cs⟩, if_pos h, fun i ob b' s hi => by simp at hi⟩
  ·rw [hw2 b h] at hb
   obtain ⟨h1, ⟨cs, T, fr, h2, h3⟩, h4, _⟩ := m.xt.wl b hb
   have hlt := m.xt.lt (.inr hb)
   refine ⟨.inr (.inr hb), ⟨cs, T, fr, by rw [old b hlt]; exact h2, by rw [hw2 b h]; exact h3⟩, ?_, fun i ob b' s hi => by simp at hi⟩
   rw [hp2 b h]
   cases hc : E1.p b with
   | none => rfl
   | some cs' =>
     rcases m1.newP b (by rw [hc]; simp) with h5 | h5 | h5
     ·exact absurd h4 h5
     ·exact absurd hlt (by simpa using h5)
     ·exact absurd h5 (hM b)
 ·have key : ∀ (A : AV) (v : Value), rel E1 A v → rel E2 (wkV A) v := by
   have ob : ∀ (nl : Bool) (l : List UInt8) (v : Value), rel E1 (.ob nl l) v → rel E2 (.wsl l.length) v := fun nl l v r => by
    simp only [rel, relO8, relW] at r ⊢
    split at r
    ·obtain ⟨rfl, rfl⟩ := r; exact .inl ⟨rfl, rfl⟩
    ·obtain ⟨a, cap, vs, rfl, h2, h3, rfl⟩ := r
     refine .inr ⟨a, cap, rfl, h2, ?_⟩
     rcases h3 with h3 | ⟨b, rfl, ⟨cs, pre, post, q1, q2, q3⟩, h4⟩
     ·left; simpa using h3
     ·right
      refine ⟨b, 0, rfl, ?_⟩
      obtain ⟨_, cs', T, fr, k2, k3, _⟩ := m1.xt.ow b h4
      rw [q1] at k2; cases k2
      have e : E2.wl b = n8 cs := (if_pos h4).trans (hsz b cs T fr k3)
      rw [e, Nat.zero_add]
      have : pre = [] := List.eq_nil_of_length_eq_zero q3
      subst this
      exact n8_ge (by simpa using q2)
   intro A
   induction A using AV.rec (motive_2 := fun l => ∀ vs, relL E1 l vs → relL E2 (wkL l) vs) with
   | agg l ih => intro v r; simp only [wkV, rel] at r ⊢; obtain ⟨vs, h1, h2, h3⟩ := r; exact ⟨vs, h1, ih _ h2, h3⟩
   | tup l ih => intro v r; simp only [wkV, rel] at r ⊢; obtain ⟨vs, h1, h2⟩ := r; exact ⟨vs, h1, ih _ h2⟩
   | ob nl l => intro v r; simp only [wkV]; exact ob nl l v r
   | nil => rename_i vs r; simp only [wkL, relL] at r ⊢; exact r
   | cons a l ha ih => rename_i vs r; simp only [wkL, relL] at r ⊢; obtain ⟨u, us, h1, h2, h3⟩ := r; exact ⟨u, us, h1, ha _ h2, ih _ h3⟩
   | _ => intro v r; simp only [wkV, rel] at r ⊢ <;> first | exact r | trivial
  exact key r v hr
end
end Go.Abs
