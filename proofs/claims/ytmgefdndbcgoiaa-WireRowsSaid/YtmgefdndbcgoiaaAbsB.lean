/-
  Own work. Conditions: none. Each operation does what the executor says (seventh part: append). Each operation does what the executor says (eighth part: append onto an object). Each operation does what the executor says (ninth part: calls). A contract on few objects, used among many: objects are renamed. Each operation does what the executor says: all of them. Regions: operations in their order, and in whatever order is drawn. Regions against the machine. A range over a function of which the elements are known one by one: what is asked of the loop's body. (Own work; after the kit's law for such a loop.) Regions whose order is drawn. The executor over code: what is to be shown of a body, and that it is enough. The executor over code against the machine. Ranges over a function; the executor over code against the machine. A function's contract by the executor. The table of types that a program brings. Contracts in use. Contracts told in other words; kinds of arguments. From a law's contract to the call of it in any world: all that is there is taken as nobody's to write.
-/
import Derived.Test.YtmgefdndbcgoiaaAbsA
import Derived.Deep.AppendSrc
import Derived.OrdersIn
import Derived.RangeFuncNested
import Derived.ControlIn
import Derived.RangeFuncLeaves
import Derived.Laws.Sem
import Derived.WalkKit
import Derived.Below
set_option linter.unusedVariables false
set_option linter.unusedSimpArgs false
set_option linter.unnecessarySimpa false
namespace Go.Abs
section
variable {P : Program} {ti : Nat → TInf} {B : Base} {E : Env} {h : List AO} {w : World} {g : Nat → AV} {a : Act} {o : Oper} {sp : Sp}

theorem src_ok (m : Mem B E h w) {sz k : Nat} {A d : AV} {D : Option Prop} (hs : srcS h sz A = some (D, k, d)) (hD : holds D) {v : Value} (hv : rel E A v) {tx : TypeId} (hk : (∃ e', P.underlying tx = some (.slice e')) ∨ P.underlying tx = some .string) :
    ∃ us, relC E d us ∧ Src P sz tx v k us w := by
  unfold srcS at hs
  split at hs
  · rename_i l
    split at hs
    · rename_i hz
      cases hs
      obtain rfl := Nat.eq_of_beq_eq_true hz
      simp only [rel] at hv
      obtain ⟨s, rfl, rfl⟩ := hv
      have hsz : s.data.toList.length = s.size := by rw [Array.length_toList]; rfl
      refine ⟨byteCells s, by simp only [relC]; rfl, ?_⟩
      rw [hsz]
      exact ⟨hk, fun _ => rfl, firstCells_string s w, firstCells_string s w.drew, by rw [byteCells_length, Nat.mul_one], fun u hu => by
        obtain ⟨_, _, rfl⟩ := List.mem_map.1 hu
        rfl⟩
    · cases hs
  · obtain ⟨ad, cap, vs, rfl, h1, h2, h3, h4⟩ := rdS_ok m hs hD hv
    have cells : ∀ w' : World, (∀ x, w'.cell? x = w.cell? x) → (Builtin.firstCells sz k (.slice ad k cap)).run P w' = .ok vs.toArray w' := fun w' hw => by
      cases ad with
      | none =>
        rcases h4 with rfl | ⟨_, _, h4, _⟩
        · exact run_firstCells_none w' sz k k cap
        · cases h4
      | some ad =>
        refine run_firstCells_some w' sz k ad k cap vs h3 fun j u hu => ?_
        rcases h4 with rfl | ⟨b, o', h4, h5⟩
        · simp at hu
        · cases h4; rw [addr_add, hw]; exact h5 j u hu
    exact ⟨vs, h2, hk, fun _ => rfl, cells w fun _ => rfl, cells w.drew fun _ => rfl, h3, (relC_iff.1 h2).2.2⟩

theorem run_append_zero (t tx ty e : TypeId) (i : TypeInfo) (ht : P.underlying t = some (.slice e)) (hi : P.info? e = some i) {base : Option Addr} {sLen sCap : Nat} {x : Value} (hs : Src P i.size tx x 0 [] w) (hr : sLen ≤ sCap) :
    (Builtin.append_ #[t, tx] ty #[.slice base sLen sCap, x]).run P w = .ok (.slice base sLen sCap) w := by
  rcases hs.kind with ⟨e', hk⟩ | hk <;> cases base <;> simp [Builtin.append_, run_underlying ht, run_underlying hk, sizeOf, typeInfo, hi, hs.len, hr, hs.cells, storeCells]

/-- There is room, in a row that may be written. -/
theorem run_append_room_fr (t tx ty e : TypeId) (i : TypeInfo) (ht : P.underlying t = some (.slice e)) (hi : P.info? e = some i) {b off sLen sCap n : Nat} {x : Value} {news : List Value} (hs : Src P i.size tx x n news w) (hroom : sLen + n ≤ sCap)
    {cur : Array Value} {T : TypeId} {fr : Nat × Nat} (hb : w.heap[b]? = some (.cells cur T fr)) (hfit : off + sLen * i.size + news.length ≤ cur.size) (hfr : ∀ k, k < cur.size → (decide (fr.1 ≤ k) && decide (k < fr.2)) = false) :
    (Builtin.append_ #[t, tx] ty #[.slice (some ⟨b, off, none⟩) sLen sCap, x]).run P w =
      .ok (.slice (some ⟨b, off, none⟩) (sLen + n) sCap) (w.setRow b (cur.toList.take (off + sLen * i.size) ++ news ++ cur.toList.drop (off + sLen * i.size + news.length)).toArray) := by
  have hst := run_storeCells_fr (P := P) b (off + sLen * i.size) T fr news 0 cur w hb (by simpa using hfit) hfr hs.one
  simp only [Nat.add_zero] at hst
  rcases hs.kind with ⟨e', hk⟩ | hk <;> simp [Builtin.append_, run_underlying ht, run_underlying hk, sizeOf, typeInfo, hi, hs.len, hroom, hs.cells, Addr.add_lit, hst]

/-- The next making of an object, in its place. -/
theorem Mem.bump (m : Mem B E h w) {i b s : Nat} {ob : AO} (hi : h[i]? = some ob) (hι : E.ι i = some (b, s)) :
    E.le (E.name i b s (ob.ep + 1)) ∧ Mem B (E.name i b s (ob.ep + 1)) (h.set i { ob with ep := ob.ep + 1 }) w := by
  have hlt : i < h.length := (List.getElem?_eq_some_iff.1 hi).1
  have hep : E.ep i = ob.ep := (m.obj i ob hi).1
  have le := Env.le_name_next (b := b) (s := s) (show E.ep i < ob.ep + 1 by omega)
  have hιE : ∀ j, (E.name i b s (ob.ep + 1)).ι j = E.ι j := fun j => by
    simp only [Env.name]; split
    · rename_i e; rw [e, hι]
    · rfl
  have get : ∀ {k : Nat} {ok : AO}, (h.set i { ob with ep := ob.ep + 1 })[k]? = some ok → ∃ o', h[k]? = some o' ∧ o'.fz = ok.fz ∧ o'.c = ok.c ∧ (k ≠ i → o' = ok) ∧ (k = i → ok.ep = ob.ep + 1) := fun {k ok} hk => by
    by_cases e : k = i
    · subst e; rw [List.getElem?_set_self hlt] at hk; cases hk; exact ⟨ob, hi, rfl, rfl, fun e => absurd rfl e, fun _ => rfl⟩
    · rw [List.getElem?_set_ne (Ne.symm e)] at hk; exact ⟨ok, hk, rfl, rfl, fun _ => rfl, fun e' => absurd e' e⟩
  refine ⟨le, m.le.trans le, m.size, m.os, m.tape, m.output, m.keeps, m.sat, fun k ok hk => ?_, fun j k oj ok b1 s1 t1 hj hk fj fk hb hb' hs ht => ?_, m.newP, fun j hj => ?_, fun j hj => m.base j (by simpa using hj)⟩
  · obtain ⟨o', h1, h2, h3, h4, h5⟩ := get hk
    obtain ⟨q1, b', s', q2, q3⟩ := m.obj k o' h1
    refine ⟨?_, b', s', by rw [hιE]; exact q2, ?_⟩
    · by_cases e : k = i
      · rw [h5 e]; simp [Env.name, e]
      · rw [← h4 e]; simp [Env.name, e]; exact q1
    · rw [← h2, ← h3]
      rcases q3 with ⟨g1, g2⟩ | ⟨g0, vs, g1, g2⟩ | ⟨g0, g1, cur, T, fr, vs, post, g2, g3, g4, g5, g6, g7, g8⟩
      · exact .inl ⟨g1, relC.mono le _ _ g2⟩
      · exact .inr (.inl ⟨g0, vs, g1.mono le, relC.mono le _ _ g2⟩)
      · exact .inr (.inr ⟨g0, g1, cur, T, fr, vs, post, g2, g3, g4, g5, relC.mono le _ _ g6, g7, g8⟩)
  · obtain ⟨oj', j1, j2, _⟩ := get hj
    obtain ⟨ok', k1, k2, _⟩ := get hk
    rw [hιE] at hb hb'
    exact m.inj j k oj' ok' b1 s1 t1 j1 k1 (j2.trans fj) (k2.trans fk) hb hb' hs ht
  · simp at hj
    have := m.fresh j hj
    rw [hιE]
    refine ⟨this.1, ?_⟩
    simp only [Env.name]; rw [if_neg (by omega)]; exact this.2

/-- An object of no cells, in no block. -/
theorem Mem.ghost (m : Mem B E h w) {c : AV} (hc : relC E c []) : E.le (E.name h.length 0 0 0) ∧ Mem B (E.name h.length 0 0 0) (h ++ [⟨0, c, false⟩]) w := by
  have le := Env.le_name_new (b := 0) (s := 0) (e := 0) (m.fresh h.length (Nat.le_refl _)).1
  have lens : ∀ {k : Nat} {ok : AO}, (h ++ [⟨0, c, false⟩])[k]? = some ok → (k = h.length ∧ ok = ⟨0, c, false⟩) ∨ (k < h.length ∧ h[k]? = some ok) := fun {k ok} hk => by
    rcases Nat.lt_or_ge k h.length with hlt | hge
    · rw [List.getElem?_append_left hlt] at hk; exact .inr ⟨hlt, hk⟩
    · have hl := (List.getElem?_eq_some_iff.1 hk).1
      simp at hl
      have : k = h.length := by omega
      subst this
      rw [List.getElem?_append_right (Nat.le_refl _)] at hk
      simp at hk
      exact .inl ⟨rfl, hk.symm⟩
  refine ⟨le, m.le.trans le, m.size, m.os, m.tape, m.output, m.keeps, m.sat, fun k ok hk => ?_, fun j k oj ok b s t hj hk fj fk hb hb' hs ht => ?_, m.newP, fun j hj => ?_, fun j hj => m.base j (by simp at hj; omega)⟩
  · rcases lens hk with ⟨rfl, rfl⟩ | ⟨hlt, hk⟩
    · exact ⟨by simp [Env.name], 0, 0, by simp [Env.name], .inl ⟨rfl, relC.mono le _ _ hc⟩⟩
    · exact (m.obj k ok hk).mono le ⟨by simp [Env.name]; omega, by simp [Env.name]; omega⟩ fun b s _ _ _ hp _ => hp
  · simp only [Env.name] at hb hb'
    split at hb
    · cases hb; omega
    · split at hb'
      · cases hb'; omega
      · rcases lens hj with ⟨rfl, _⟩ | ⟨_, hj⟩
        · contradiction
        · rcases lens hk with ⟨rfl, _⟩ | ⟨_, hk⟩
          · contradiction
          · exact m.inj j k oj ok b s t hj hk fj fk hb hb' hs ht
  · simp at hj
    simp only [Env.name]
    rw [if_neg (by omega), if_neg (by omega)]
    exact m.fresh j (by omega)

/-- What an append may lean on, of its types. -/
structure AppT (P : Program) (ti : Nat → TInf) (t tx e : TypeId) where
  info : TypeInfo
  z : Value
  ht : P.underlying t = some (.slice e)
  hi : P.info? e = some info
  hz : info.zero = some z
  size : info.size = (ti e).size
  bytes : info.bytes = (ti e).bytes
  zs : z.cells.size = (ti e).size
  pos : (ti e).size ≠ 0
  bpos : (ti e).bytes ≠ 0
  hx : (∃ e', P.underlying tx = some (.slice e')) ∨ P.underlying tx = some .string

theorem size_grown {z : Value} {sz n c : Nat} (hz : z.cells.size = sz) (hn : n ≤ c) {xs : List Value} (hl : xs.length = n * sz) : (xs.toArray ++ Builtin.zeroCells z.cells (c - n)).size = c * sz := by
  rw [Array.size_append, size_zeroCells, hz, List.size_toArray, hl, ← Nat.add_mul]; congr 1; omega

theorem small_of {n by_ : Nat} (hb : by_ ≠ 0) (h : n * by_ ≤ 140737488355328) : (n : Int) ≤ 9223372036854775807 := by
  have : n * 1 ≤ n * by_ := Nat.mul_le_mul_left _ (by omega)
  omega

theorem ones_zero {t tx e : TypeId} (T : AppT P ti t tx e) : True := trivial

/-- Onto a slice that has no room (or of which nothing is known but that it is nil). -/
theorem appSl_ok (m : Mem B E h w) {t tx ty e : TypeId} (T : AppT P ti t tx e) {nil mm : Bool} {n k : Nat} {c d : AV} {us vs : List Value} {base : Option Addr} {x : Value}
    (hs : Src P (ti e).size tx x k us w) (hd : relC E d us) (hc : relC E c vs) (hl : vs.length = n * (ti e).size)
    (hold : ∀ w' : World, (∀ y, w'.cell? y = w.cell? y) → (Builtin.firstCells (ti e).size n (.slice base n n)).run P w' = .ok vs.toArray w') (hnil : nil = true → base = none ∧ n = 0) (hnn : nil = false → base ≠ none)
    (hself : rel E (.sl nil n (ti e).size c true) (.slice base n n))
    {D C : Option Prop} {R : AV} {h' : List AO} :
    (appSl h mm (ti e).size (ti e).bytes D k d nil n c = .v C R → holds C → ∃ r w', (Builtin.append_ #[t, tx] ty #[.slice base n n, x]).run P w = .ok r w' ∧ Post B E h R r w') ∧
    (appSl h mm (ti e).size (ti e).bytes D k d nil n c = .e C R h' → holds C → ∃ r w', (Builtin.append_ #[t, tx] ty #[.slice base n n, x]).run P w = .ok r w' ∧ Post B E h' R r w') := by
  obtain ⟨i, z, ht, hi, hz, hsz, hby, hzs, hpos, hbpos, hkx⟩ := T
  have k0 : k = 0 → us = [] := fun hk => by have := hs.newsLen; rw [hk] at this; simpa using this
  have zero : k = 0 → (Builtin.append_ #[t, tx] ty #[.slice base n n, x]).run P w = .ok (.slice base n n) w := fun hk => by
    have hs' := hs
    rw [k0 hk, hk] at hs'
    exact run_append_zero t tx ty e i ht hi (by rw [hsz]; exact hs') (Nat.le_refl n)
  have grow : 0 < k → (n + k) * (ti e).bytes ≤ 140737488355328 → (Builtin.append_ #[t, tx] ty #[.slice base n n, x]).run P w = .ok (.slice (some ⟨w.heap.size, 0, none⟩) (n + k) (grownCap w (n + k) n e))
      (w.drew.alloc (.cells ((vs ++ us).toArray ++ Builtin.zeroCells z.cells (grownCap w (n + k) n e - (n + k))) e)) := fun hk hb => by
    refine run_append_grow_src w t tx ty e i z ht hi hz base n n vs (by rw [hsz]; exact hold w.drew fun _ => rfl) x k us (by rw [hsz]; exact hs) (by omega) (small_of hbpos hb) ?_
    rw [hby]; exact growslice_fits (by omega) hb
  have hge := grownCap_ge w (n + k) n e
  have hlen : (vs ++ us).length = (n + k) * (ti e).size := by rw [List.length_append, hl, hs.newsLen, Nat.add_mul]
  have hnilk : 0 < k → nilK nil k = false := fun hk => by
    cases nil
    · rfl
    · cases k with
      | zero => omega
      | succ k => rfl
  have hnil0 : k = 0 → nilK nil k = nil := fun hk => by subst hk; cases nil <;> rfl
  constructor
  · intro hev hC
    unfold appSl at hev
    split at hev
    · split at hev
      · rename_i c' hc'
        cases hev
        obtain ⟨_, hC⟩ := holds_both.1 hC
        have hcc := relC_app hc' hc hd
        rcases Nat.eq_zero_or_pos k with hk | hk
        · refine ⟨_, _, zero hk, E, Env.le.refl E, m, ?_⟩
          rw [hnil0 hk]
          rw [k0 hk, List.append_nil] at hcc
          subst hk
          simp only [rel, Nat.add_zero] at hself ⊢
          split
          · rename_i hn; rw [if_pos hn] at hself; obtain ⟨q1, q2, q3⟩ := hself
            refine ⟨q1, q2, ?_⟩
            have : vs = [] := by rw [q2] at hl; simpa using hl
            rw [this] at hcc; exact hcc
          · rename_i hn; rw [if_neg hn] at hself
            obtain ⟨ad, cap, vs', q1, q2, q3, q4, q5, q6⟩ := hself
            refine ⟨ad, cap, vs', q1, q2, (fun hh => Bool.noConfusion hh), q4, q5, ?_⟩
            have := relC_app hc' q6 (show relC E d [] by rw [← k0 rfl]; exact hd)
            rwa [List.append_nil] at this
        · refine ⟨_, _, grow hk hC, ?_⟩
          rw [hnilk hk]
          exact Post.new_sl' m.drew (T := e) (fr := (0, 0)) (full := false) (post := (Builtin.zeroCells z.cells (grownCap w (n + k) n e - (n + k))).toList) (by simp) hcc hlen hge (fun h => by cases h)
      · cases hev
    · split at hev
      · cases hev
      · split at hev <;> cases hev
  · intro hev hC
    unfold appSl at hev
    split at hev
    · split at hev <;> cases hev
    · split at hev
      · rename_i hb0
        obtain rfl := Nat.eq_of_beq_eq_true hb0
        cases hev
        obtain ⟨_, hC⟩ := holds_both.1 hC
        simp only [holds] at hC
        have hvs : vs = [] := by simpa using hl
        rcases Nat.eq_zero_or_pos k with hk | hk
        · rw [hnil0 hk]
          obtain ⟨le, m'⟩ := m.ghost (c := d) (by rw [← k0 hk]; exact hd)
          refine ⟨_, _, zero hk, _, le, by rw [hsnoc_eq]; exact m', ?_⟩
          subst hk
          simp only [rel]
          split
          · rename_i hn; rw [(hnil hn).1]; simp
          · rename_i hn
            cases base with
            | none => exact absurd rfl (hnn (by simpa using hn))
            | some ad =>
              simp only [Env.name, hlen_eq, if_true]
              exact ⟨Nat.le_refl _, by simp, ad, 0, rfl, Nat.le_refl _, fun _ => ⟨0, 0, rfl, .inl rfl, by simp⟩⟩
        · have hg := grow hk (by simpa using hC)
          rw [hnilk hk]
          refine ⟨_, _, hg, ?_⟩
          rw [hvs, List.nil_append, Nat.zero_add] at *
          exact Post.new_ms m.drew (T := e) (fr := (0, 0)) (vs := us) (post := (Builtin.zeroCells z.cells (grownCap w k 0 e - k)).toList) (by simp) hd hge (by rw [size_grown hzs hge hs.newsLen]; exact Nat.le_refl _) (fun o _ => by simp)
      · split at hev
        · rename_i c' hc'
          cases hev
          obtain ⟨_, hC⟩ := holds_both.1 hC
          simp only [holds] at hC
          refine ⟨_, _, grow hC.1 hC.2, ?_⟩
          exact Post.new_ms m.drew (T := e) (fr := (0, 0)) (vs := vs ++ us) (post := (Builtin.zeroCells z.cells (grownCap w (n + k) n e - (n + k))).toList) (by simp) (relC_app hc' hc hd) hge (by rw [size_grown hzs hge hlen]; exact Nat.le_refl _) (fun o _ => by simp)
        · cases hev

end
end Go.Abs

namespace Go.Abs
section
variable {P : Program} {ti : Nat → TInf} {B : Base} {E : Env} {h : List AO} {w : World} {g : Nat → AV} {a : Act} {o : Oper} {sp : Sp}

theorem nilK_pos {nil : Bool} {k : Nat} (hk : 0 < k) : nilK nil k = false := by
  cases nil
  · rfl
  · cases k with
    | zero => omega
    | succ k => rfl
theorem nilK_zero {nil : Bool} : nilK nil 0 = nil := by cases nil <;> rfl

/-- Of a row, the first cells alone are known any more. -/
theorem Mem.cutC (m : Mem B E h w) {i : Nat} {ob : AO} {c' : AV} (hi : h[i]? = some ob) (hf : ob.fz = false) (hc : ∀ vs, relC E ob.c vs → ∃ us rest, vs = us ++ rest ∧ relC E c' us) : Mem B E (h.set i { ob with c := c' }) w := by
  have hlt := (List.getElem?_eq_some_iff.1 hi).1
  have get : ∀ {k : Nat} {ok : AO}, (h.set i { ob with c := c' })[k]? = some ok → (k = i ∧ ok = { ob with c := c' }) ∨ (k ≠ i ∧ h[k]? = some ok) := fun {k ok} hk => by
    by_cases e : k = i
    · subst e; rw [List.getElem?_set_self hlt] at hk; cases hk; exact .inl ⟨rfl, rfl⟩
    · rw [List.getElem?_set_ne (Ne.symm e)] at hk; exact .inr ⟨e, hk⟩
  refine ⟨m.le, m.size, m.os, m.tape, m.output, m.keeps, m.sat, fun k ok hk => ?_, fun j k oj ok b1 s1 t1 hj hk fj fk hb hb' hs ht => ?_, m.newP, fun j hj => m.fresh j (by simpa using hj), fun j hj => m.base j (by simpa using hj)⟩
  · rcases get hk with ⟨rfl, rfl⟩ | ⟨_, hk⟩
    · obtain ⟨q1, b', s', q2, q3⟩ := m.obj _ ob hi
      refine ⟨q1, b', s', q2, ?_⟩
      rcases q3 with ⟨g1, g2⟩ | ⟨g0, _⟩ | ⟨g0, g1, cur, T, fr, vs, post, g2, g3, g4, g5, g6, g7, g8⟩
      · obtain ⟨us, rest, e, hu⟩ := hc [] g2
        have : us = [] := (List.append_eq_nil_iff.1 e.symm).1
        subst this
        exact .inl ⟨g1, hu⟩
      · rw [hf] at g0; cases g0
      · obtain ⟨us, rest, rfl, hu⟩ := hc vs g6
        exact .inr (.inr ⟨hf, g1, cur, T, fr, us, rest ++ post, g2, g3, g4, by rw [g5, List.append_assoc], hu, g7, g8⟩)
    · exact m.obj _ ok hk
  · have fix : ∀ {k : Nat} {ok : AO}, (h.set i { ob with c := c' })[k]? = some ok → ok.fz = false → ∃ o', h[k]? = some o' ∧ o'.fz = false := fun {k ok} hk fk => by
      rcases get hk with ⟨rfl, rfl⟩ | ⟨_, hk⟩
      · exact ⟨ob, hi, hf⟩
      · exact ⟨ok, hk, fk⟩
    obtain ⟨oj', hj', fj'⟩ := fix hj fj
    obtain ⟨ok', hk', fk'⟩ := fix hk fk
    exact m.inj j k oj' ok' b1 s1 t1 hj' hk' fj' fk' hb hb' hs ht

theorem appMs_core (m : Mem B E h w) {t tx ty e : TypeId} (T : AppT P ti t tx e) {nil : Bool} {i n k : Nat} {c d : AV} {us : List Value} {v x : Value} {ob : AO}
    (hs : Src P (ti e).size tx x k us w) (hd : relC E d us) (hv : rel E (.ms nil i ob.ep 0 n (ti e).size) v) (hob' : h[i]? = some ob) (hfz : ob.fz = false) (hc : capp ob.c d = some c) (hn : n * (ti e).size = clen ob.c) (hb : (n + k) * (ti e).bytes ≤ 140737488355328) :
    ∃ r w', (Builtin.append_ #[t, tx] ty #[v, x]).run P w = .ok r w' ∧ Post B E (h.set i ⟨ob.ep + 1, c, false⟩) (.ms (nilK nil k) i (ob.ep + 1) 0 (n + k) (ti e).size) r w' := by
  obtain ⟨inf, z, ht, hi, hz, hsz, hby, hzs, hpos, hbpos, hkx⟩ := T
  have ho := m.obj i ob hob'
  obtain ⟨hE, b, s, hι, hrow⟩ := ho
  have k0 : k = 0 → us = [] := fun hk => by have := hs.newsLen; rw [hk] at this; simpa using this
  have bump := m.bump hob' hι
  -- what the slice is
  have hv' : ∃ base cap, v = .slice base n cap ∧ n ≤ cap ∧ cap * (ti e).size ≤ s ∧ (nil = true → base = none ∧ n = 0 ∧ cap = 0) ∧ (nil = false → ∃ ad, base = some ad ∧ (cap = 0 ∨ ad = ⟨b, 0, none⟩)) := by
    simp only [rel] at hv
    split at hv
    · rename_i hn'; obtain ⟨rfl, rfl⟩ := hv
      exact ⟨none, 0, rfl, Nat.le_refl _, by simp, fun _ => ⟨rfl, rfl, rfl⟩, fun h => by rw [hn'] at h; cases h⟩
    · rename_i hn'
      obtain ⟨_, _, ad, cap, rfl, h3, h4⟩ := hv
      obtain ⟨b', s', h5, h6, h7⟩ := h4 hE.symm
      rw [hι] at h5; cases h5
      exact ⟨some ad, cap, rfl, h3, by omega, fun h => absurd h hn', fun _ => ⟨ad, rfl, h6⟩⟩
  obtain ⟨base, cap, rfl, hcap, hcs, hnil, hnn⟩ := hv'
  rcases Nat.eq_zero_or_pos k with hk | hk
  · -- nothing is appended
    subst hk
    have hus := k0 rfl
    subst hus
    refine ⟨_, _, run_append_zero t tx ty e inf ht hi (by rw [hsz]; exact hs) hcap, _, bump.1, ?_, ?_⟩
    · have hm := bump.2
      have hcell : (cells c) = cells ob.c := by
        have h1 := (capp_ok hc).2
        have h2 := (relL_length (relC_iff.1 hd).2.1)
        have h3 : cells d = [] := List.eq_nil_of_length_eq_zero (by simpa using h2.symm)
        rw [h1, h3, List.append_nil]
      have he : (⟨ob.ep + 1, c, false⟩ : AO) = ⟨ob.ep + 1, c, ob.fz⟩ := by rw [hfz]
      refine ⟨hm.le, hm.size, hm.os, hm.tape, hm.output, hm.keeps, hm.sat, fun j oj hj => ?_, fun j l oj ol b1 s1 t1 hj hl fj fl => ?_, hm.newP, fun j hj => hm.fresh j (by simpa using hj), fun j hj => hm.base j (by simpa using hj)⟩
      · by_cases e' : j = i
        · subst e'
          have hlt := (List.getElem?_eq_some_iff.1 hob').1
          rw [List.getElem?_set_self hlt] at hj
          cases hj
          have := hm.obj j { ob with ep := ob.ep + 1 } (by rw [List.getElem?_set_self hlt])
          have tr : ∀ vs, relC (E.name j b s (ob.ep + 1)) ob.c vs → relC (E.name j b s (ob.ep + 1)) c vs := fun vs hvs => by
            obtain ⟨_, q2, q3⟩ := relC_iff.1 hvs
            exact relC_iff.2 ⟨(capp_ok hc).1, by rw [hcell]; exact q2, q3⟩
          obtain ⟨q1, b', s', q2, q3⟩ := this
          refine ⟨q1, b', s', q2, ?_⟩
          rcases q3 with ⟨g1, g2⟩ | ⟨g0, _⟩ | ⟨g0, g1, cur, T, fr, vs, post, g2, g3, g4, g5, g6, g7, g8⟩
          · exact .inl ⟨g1, tr _ g2⟩
          · exact absurd (hfz.symm.trans g0) (by simp)
          · exact .inr (.inr ⟨rfl, g1, cur, T, fr, vs, post, g2, g3, g4, g5, tr _ g6, g7, g8⟩)
        · rw [List.getElem?_set_ne (Ne.symm e')] at hj
          exact hm.obj j oj (by rw [List.getElem?_set_ne (Ne.symm e')]; exact hj)
      · have get : ∀ {k : Nat} {ok : AO}, (h.set i ⟨ob.ep + 1, c, false⟩)[k]? = some ok → ok.fz = false → ∃ o', (h.set i { ob with ep := ob.ep + 1 })[k]? = some o' ∧ o'.fz = false := fun {k ok} hk fk => by
          by_cases e : k = i
          · subst e; exact ⟨{ ob with ep := ob.ep + 1 }, by rw [List.getElem?_set_self (List.getElem?_eq_some_iff.1 hob').1], hfz⟩
          · rw [List.getElem?_set_ne (Ne.symm e)] at hk; exact ⟨ok, by rw [List.getElem?_set_ne (Ne.symm e)]; exact hk, fk⟩
        obtain ⟨oj', hj', fj'⟩ := get hj fj
        obtain ⟨ol', hl', fl'⟩ := get hl fl
        exact hm.inj j l oj' ol' b1 s1 t1 hj' hl' fj' fl'
    · rw [nilK_zero]
      simp only [rel, Nat.add_zero]
      split
      · rename_i hn'; obtain ⟨rfl, rfl, rfl⟩ := hnil hn'; simp
      · rename_i hn'
        obtain ⟨ad, rfl, h6⟩ := hnn (by simpa using hn')
        simp only [Env.name, if_true]
        exact ⟨Nat.le_refl _, by simp, ad, cap, rfl, hcap, fun _ => ⟨b, s, rfl, h6, by omega⟩⟩
  · rw [nilK_pos hk]
    have rowv : ∃ vs, relC E ob.c vs ∧ vs.length = n * (ti e).size ∧ (s = 0 → vs = []) ∧ (0 < s → ∃ cur T fr post, w.heap[b]? = some (.cells cur T fr) ∧ cur.size = s ∧ (∀ o, o < s → (decide (fr.1 ≤ o) && decide (o < fr.2)) = false) ∧ cur.toList = vs ++ post) := by
      rcases hrow with ⟨rfl, g2⟩ | ⟨g0, _⟩ | ⟨g0, g1, cur, T, fr, vs, post, g2, g3, g4, g5, g6, g7, g8⟩
      · exact ⟨[], g2, by rw [hn, ← relC_length g2], fun _ => rfl, fun h => by omega⟩
      · rw [hfz] at g0; cases g0
      · exact ⟨vs, g6, by rw [hn, ← relC_length g6], fun h => by omega, fun _ => ⟨cur, T, fr, post, g2, g3, g4, g5⟩⟩
    obtain ⟨vs, hvs, hvl, hs0, hsp⟩ := rowv
    have hcc := relC_app hc hvs hd
    have hlen : (vs ++ us).length = (n + k) * (ti e).size := by rw [List.length_append, hvl, hs.newsLen, Nat.add_mul]
    by_cases hroom : n + k ≤ cap
    · -- there is room
      have hc0 : (n + k) * (ti e).size ≤ cap * (ti e).size := Nat.mul_le_mul_right _ hroom
      have hp1 : 0 < (n + k) * (ti e).size := Nat.mul_pos (by omega) (by omega)
      have hspos : 0 < s := by omega
      obtain ⟨cur, T, fr, post, g2, g3, g4, g5⟩ := hsp hspos
      have hnf : nil = false := by
        cases nil
        · rfl
        · obtain ⟨_, _, hc'⟩ := hnil rfl; omega
      obtain ⟨ad, rfl, h6⟩ := hnn hnf
      obtain rfl : ad = ⟨b, 0, none⟩ := by
        rcases h6 with h6 | h6
        · omega
        · exact h6
      have hul := hs.newsLen
      have hnk : n * (ti e).size + k * (ti e).size = (n + k) * (ti e).size := by rw [Nat.add_mul]
      have hrun := run_append_room_fr (P := P) (w := w) t tx ty e inf ht hi (b := b) (off := 0) (sLen := n) (sCap := cap) (n := k) (x := x) (news := us) (by rw [hsz]; exact hs) hroom g2 (by rw [hsz]; omega) (by rw [g3]; exact g4)
      rw [hsz, Nat.zero_add] at hrun
      refine ⟨_, _, hrun, ?_⟩
      have hcl : cur.size = vs.length + post.length := by rw [← Array.length_toList, g5]; simp
      have hnew : (cur.toList.take (n * (ti e).size) ++ us ++ cur.toList.drop (n * (ti e).size + us.length)) = (vs ++ us) ++ post.drop us.length := by
        rw [g5, ← hvl, List.take_left, List.drop_append, List.drop_eq_nil_of_le (show vs.length ≤ vs.length + us.length by omega), List.nil_append, show vs.length + us.length - vs.length = us.length by omega]
      have hm := m.writeO (c' := c) hob' hfz hι hspos (cur' := (cur.toList.take (n * (ti e).size) ++ us ++ cur.toList.drop (n * (ti e).size + us.length)).toArray) (T := T) (fr := fr) (post' := post.drop us.length) (vs' := vs ++ us)
        (w' := w.setRow b (cur.toList.take (n * (ti e).size) ++ us ++ cur.toList.drop (n * (ti e).size + us.length)).toArray)
        ⟨cur, g2, by rw [hnew]; simp; omega⟩ (setRow_heap w b cur _ T fr g2) (by simp) (fun k hk => setRow_other w b k _ hk) rfl rfl rfl (by simpa using hnew) hcc
      have hlt := (List.getElem?_eq_some_iff.1 hob').1
      have hm2 := hm.bump (i := i) (ob := { ob with c := c }) (by rw [List.getElem?_set_self hlt]) hι
      refine ⟨_, hm2.1, ?_, ?_⟩
      · have := hm2.2
        rw [List.set_set] at this
        have he : (⟨ob.ep + 1, c, false⟩ : AO) = ⟨ob.ep + 1, c, ob.fz⟩ := by rw [hfz]
        rw [he]; exact this
      · simp only [rel, Bool.false_eq_true, if_false, Env.name, if_true]
        exact ⟨Nat.le_refl _, by simp, _, cap, rfl, hroom, fun _ => ⟨b, s, rfl, .inr rfl, by omega⟩⟩
    · -- it grows
      have hold : (Builtin.firstCells (ti e).size n (.slice base n cap)).run P w.drew = .ok vs.toArray w.drew := by
        cases base with
        | none =>
          have hnt : nil = true := by
            cases nil
            · obtain ⟨ad, h, _⟩ := hnn rfl; cases h
            · rfl
          obtain ⟨_, rfl, _⟩ := hnil hnt
          have : vs = [] := by simpa using hvl
          subst this
          exact run_firstCells_none w.drew _ _ _ _
        | some ad =>
          have hnf : nil = false := by
            cases nil
            · rfl
            · obtain ⟨h, _⟩ := hnil rfl; cases h
          obtain ⟨ad', h1, h6⟩ := hnn hnf
          cases h1
          refine run_firstCells_some w.drew _ _ ad n cap vs hvl fun j u hu => ?_
          by_cases hsz0 : s = 0
          · rw [hs0 hsz0] at hu; simp at hu
          · obtain ⟨cur, T, fr, post, g2, g3, g4, g5⟩ := hsp (by omega)
            rcases h6 with h6 | rfl
            · have : n = 0 := by omega
              subst this
              have : vs = [] := by simpa using hvl
              rw [this] at hu; simp at hu
            · rw [addr_add, Nat.zero_add]
              show w.cell? _ = _
              rw [cell_of_row w b j cur T fr g2, ← Array.getElem?_toList, g5, List.getElem?_append_left (List.getElem?_eq_some_iff.1 hu).1]
              exact hu
      have hrun := run_append_grow_src (P := P) w t tx ty e inf z ht hi hz base n cap vs (by rw [hsz]; exact hold) x k us (by rw [hsz]; exact hs) (by omega) (small_of hbpos hb) (by rw [hby]; exact growslice_fits (by omega) hb)
      have hge := grownCap_ge w (n + k) cap e
      have hsize := size_grown hzs hge hlen
      have hp1 : 0 < (n + k) * (ti e).size := Nat.mul_pos (by omega) (by omega)
      have hp2 : (n + k) * (ti e).size ≤ grownCap w (n + k) cap e * (ti e).size := Nat.mul_le_mul_right _ hge
      obtain ⟨le, hm⟩ := m.drew.moveO (c' := c) hob' (cs := (vs ++ us).toArray ++ Builtin.zeroCells z.cells (grownCap w (n + k) cap e - (n + k))) (T := e) (vs' := vs ++ us) (post' := (Builtin.zeroCells z.cells (grownCap w (n + k) cap e - (n + k))).toList) (by simp) (by omega) hcc
      refine ⟨_, _, hrun, _, le, hm, ?_⟩
      simp only [rel, Bool.false_eq_true, if_false, Env.name, if_true]
      exact ⟨Nat.le_refl _, by simp, _, _, rfl, hge, fun _ => ⟨_, _, rfl, .inr rfl, by omega⟩⟩

theorem appMs_ok (m : Mem B E h w) {t tx ty e : TypeId} (T : AppT P ti t tx e) {nil : Bool} {i ep n k : Nat} {d : AV} {us : List Value} {v x : Value}
    (hs : Src P (ti e).size tx x k us w) (hd : relC E d us) (hv : rel E (.ms nil i ep 0 n (ti e).size) v) {D C : Option Prop} {R : AV} {h' : List AO}
    (hev : appMs h (ti e).size (ti e).bytes D k d nil i ep n = .e C R h') (hC : holds C) : ∃ r w', (Builtin.append_ #[t, tx] ty #[v, x]).run P w = .ok r w' ∧ Post B E h' R r w' := by
  unfold appMs at hev
  split at hev
  · rename_i ob hob
    split at hev
    · rename_i hep
      split at hev
      · rename_i hfz
        split at hev
        · rename_i c hc
          cases hev
          obtain ⟨_, hC⟩ := holds_both.1 hC
          simp only [holds, mulz_eq] at hC
          obtain ⟨hn, hb⟩ := hC
          have hob' : h[i]? = some ob := by rw [← hget_eq]; exact hob
          obtain rfl := Nat.eq_of_beq_eq_true hep
          rw [hset_eq]
          have hlt := (List.getElem?_eq_some_iff.1 hob').1
          have m0 : Mem B E (h.set i { ob with c := ctakeT0 ob.c n }) w := by
            refine m.cutC hob' hfz fun vs hvs => ?_
            rw [ctakeT0_eq]
            split
            · refine ⟨[], vs, rfl, ?_⟩
              cases hcc : ob.c <;> rw [hcc] at hvs <;> simp only [relC] at hvs <;> simp only [relC, relL, List.map_nil, true_and]
              exact fun u hu => by simp at hu
            · exact ⟨vs, [], by simp, hvs⟩
          have := appMs_core m0 T (ty := ty) (v := v) (nil := nil) (n := n) (i := i) hs hd hv (ob := { ob with c := ctakeT0 ob.c n }) (by rw [List.getElem?_set_self hlt]) hfz hc hn hb
          rw [List.set_set] at this
          exact this
        · cases hev
      · cases hev
    · cases hev
  · cases hev

theorem app_ok (m : Mem B E h w) {t tx ty e : TypeId} (T : AppT P ti t tx e) {mm : Bool} {A Y : AV} {v x : Value} (hv : rel E A v) (hx : rel E Y x) {C : Option Prop} {R : AV} {h' : List AO} :
    (evApp h mm (ti e).size (ti e).bytes A Y = .v C R → holds C → ∃ r w', (Builtin.append_ #[t, tx] ty #[v, x]).run P w = .ok r w' ∧ Post B E h R r w') ∧
    (evApp h mm (ti e).size (ti e).bytes A Y = .e C R h' → holds C → ∃ r w', (Builtin.append_ #[t, tx] ty #[v, x]).run P w = .ok r w' ∧ Post B E h' R r w') := by
  have hD : ∀ {D C : Option Prop} {k d nil n c R h'}, (appSl h mm (ti e).size (ti e).bytes D k d nil n c = .v C R ∨ appSl h mm (ti e).size (ti e).bytes D k d nil n c = .e C R h') → holds C → holds D := fun {D C k d nil n c R h'} hev hC => by
    unfold appSl at hev
    split at hev
    · split at hev
      · rcases hev with hev | hev
        · cases hev; exact (holds_both.1 hC).1
        · cases hev
      · rcases hev with hev | hev <;> cases hev
    · split at hev
      · rcases hev with hev | hev
        · cases hev
        · cases hev; exact (holds_both.1 hC).1
      · split at hev
        · rcases hev with hev | hev
          · cases hev
          · cases hev; exact (holds_both.1 hC).1
        · rcases hev with hev | hev <;> cases hev
  have hD' : ∀ {D C : Option Prop} {k d nil i ep n R h'}, appMs h (ti e).size (ti e).bytes D k d nil i ep n = .e C R h' → holds C → holds D := fun {D C k d nil i ep n R h'} hev hC => by
    unfold appMs at hev
    split at hev
    · split at hev
      · split at hev
        · split at hev
          · cases hev; exact (holds_both.1 hC).1
          · cases hev
        · cases hev
      · cases hev
    · cases hev
  have notv : ∀ {D C : Option Prop} {k d nil i ep n R}, appMs h (ti e).size (ti e).bytes D k d nil i ep n ≠ .v C R := fun {D C k d nil i ep n R} hev => by
    unfold appMs at hev
    split at hev
    · split at hev
      · split at hev
        · split at hev <;> cases hev
        · cases hev
      · cases hev
    · cases hev
  -- a slice by value
  have sl : ∀ {nil : Bool} {n : Nat} {c : AV} {D : Option Prop} {k : Nat} {d : AV} {full : Bool} {sz' : Nat}, srcS h (ti e).size Y = some (D, k, d) → rel E (.sl nil n sz' c full) v → (full = true ∧ sz' = (ti e).size ∨ nil = true) →
      (appSl h mm (ti e).size (ti e).bytes D k d nil n c = .v C R → holds C → ∃ r w', (Builtin.append_ #[t, tx] ty #[v, x]).run P w = .ok r w' ∧ Post B E h R r w') ∧
      (appSl h mm (ti e).size (ti e).bytes D k d nil n c = .e C R h' → holds C → ∃ r w', (Builtin.append_ #[t, tx] ty #[v, x]).run P w = .ok r w' ∧ Post B E h' R r w') := fun {nil n c D k d full sz'} hY hv hfull => by
    have main : holds D → (appSl h mm (ti e).size (ti e).bytes D k d nil n c = .v C R → holds C → ∃ r w', (Builtin.append_ #[t, tx] ty #[v, x]).run P w = .ok r w' ∧ Post B E h R r w') ∧
      (appSl h mm (ti e).size (ti e).bytes D k d nil n c = .e C R h' → holds C → ∃ r w', (Builtin.append_ #[t, tx] ty #[v, x]).run P w = .ok r w' ∧ Post B E h' R r w') := fun hDD => by
      obtain ⟨us, hd, hs⟩ := src_ok m hY hDD hx T.hx
      simp only [rel] at hv
      split at hv
      · rename_i hn
        obtain ⟨rfl, rfl, hc⟩ := hv
        exact appSl_ok m T (vs := []) hs hd hc (by simp) (fun w' _ => run_firstCells_none w' _ _ _ _) (fun _ => ⟨rfl, rfl⟩) (fun h => by rw [hn] at h; cases h) (by simp only [rel, hn, if_true]; exact ⟨trivial, trivial, hc⟩)
      · rename_i hn
        obtain ⟨ad, cap, vs, rfl, h3, h4, h5, h6, h7⟩ := hv
        rcases hfull with ⟨hf, rfl⟩ | hf
        · obtain rfl := h4 hf
          refine appSl_ok m T (vs := vs) hs hd h7 h6 (fun w' hw => ?_) (fun h => absurd h hn) (fun _ => by simp) (by simp only [rel, hn]; exact ⟨ad, cap, vs, rfl, Nat.le_refl _, fun _ => rfl, h5, h6, h7⟩)
          refine run_firstCells_some w' _ _ ad cap cap vs h6 fun j u hu => ?_
          rcases h5 with rfl | ⟨b, o', rfl, h5⟩
          · simp at hu
          · rw [addr_add, hw]; exact m.at_cell h5 hu
        · exact absurd hf hn
    exact ⟨fun hev hC => (main (hD (h' := h') (.inl hev) hC)).1 hev hC, fun hev hC => (main (hD (.inr hev) hC)).2 hev hC⟩
  have no1 : (ER.no = .v C R → holds C → ∃ r w', (Builtin.append_ #[t, tx] ty #[v, x]).run P w = .ok r w' ∧ Post B E h R r w') ∧ (ER.no = .e C R h' → holds C → ∃ r w', (Builtin.append_ #[t, tx] ty #[v, x]).run P w = .ok r w' ∧ Post B E h' R r w') :=
    ⟨fun hev => (by cases hev), fun hev => (by cases hev)⟩
  unfold evApp
  split
  · rename_i D k d hY
    split
    · rename_i nil i ep o' n sz'
      split
      · rename_i ho0
        obtain rfl := Nat.eq_of_beq_eq_true ho0
        split
        · rename_i hsz
          obtain rfl := Nat.eq_of_beq_eq_true hsz
          refine ⟨fun hev _ => absurd hev notv, fun hev hC => ?_⟩
          obtain ⟨us, hd, hs⟩ := src_ok m hY (hD' hev hC) hx T.hx
          exact appMs_ok m T hs hd hv hev hC
        · exact no1
      · exact no1
    · rename_i nil n sz' c full
      split
      · rename_i hsz
        split
        · rename_i hf
          exact sl hY hv (.inl ⟨rfl, Nat.eq_of_beq_eq_true hsz⟩)
        · split
          · exact sl hY hv (.inr rfl)
          · exact no1
      · split
        · exact sl hY hv (.inr rfl)
        · exact no1
    · exact no1
  · exact no1

end
end Go.Abs

namespace Go.Abs
section
variable {P : Program} {ti : Nat → TInf} {B : Base} {E : Env} {h : List AO} {w : World} {g : Nat → AV} {a : Act} {o : Oper} {sp : Sp}

/-- The blocks of the objects that may be written. -/
def Mof (E : Env) (h : List AO) (b : Nat) : Prop := ∃ i ob s, h[i]? = some ob ∧ ob.fz = false ∧ E.ι i = some (b, s) ∧ 0 < s

theorem Mem.enter (m : Mem B E h w) : Mem ⟨w, E, Mof E h⟩ E h w := by
  refine ⟨Env.le.refl E, Nat.le_refl _, rfl, rfl, rfl, fun _ _ _ => rfl, m.sat, fun i ob hi => ?_, m.inj, fun b hb => .inl hb, m.fresh, fun i hi => (m.fresh i hi).1⟩
  obtain ⟨h1, b, s, h2, h3⟩ := m.obj i ob hi
  refine ⟨h1, b, s, h2, ?_⟩
  rcases h3 with h3 | h3 | ⟨hf, hs, cur, T, fr, vs, post, g1, g2, g3, g4, g5, g6, g7⟩
  · exact .inl h3
  · exact .inr (.inl h3)
  · exact .inr (.inr ⟨hf, hs, cur, T, fr, vs, post, g1, g2, g3, g4, g5, g6, .inr ⟨i, ob, s, hi, hf, h2, hs⟩⟩)

theorem Mem.mof (m : Mem B E h w) {b : Nat} (hb : Mof E h b) : B.w0.heap.size ≤ b ∨ B.M b := by
  obtain ⟨i, ob, s, h1, h2, h3, h4⟩ := hb
  obtain ⟨_, b', s', k1, k2⟩ := m.obj i ob h1
  rw [h3] at k1; cases k1
  rcases k2 with ⟨rfl, _⟩ | ⟨hf, _⟩ | ⟨_, _, cur, T, fr, vs, post, g1, g2, g3, g4, g5, g6, g7⟩
  · omega
  · rw [h2] at hf; cases hf
  · exact g7

theorem Mem.back (m : Mem B E h w) {E' : Env} {h' : List AO} {w' : World} (m' : Mem ⟨w, E, Mof E h⟩ E' h' w') (hl : h.length ≤ h'.length) : Mem B E' h' w' := by
  have hM : ∀ {b : Nat}, w.heap.size ≤ b ∨ Mof E h b → B.w0.heap.size ≤ b ∨ B.M b := fun {b} hb => by
    rcases hb with hb | hb
    · left; have := m.size; omega
    · exact m.mof hb
  refine ⟨m.le.trans m'.le, Nat.le_trans m.size m'.size, m'.os.trans m.os, m'.tape.trans m.tape, m'.output.trans m.output, fun b hb hn => ?_, m'.sat, fun i ob hi => ?_, m'.inj, fun b hb => ?_, m'.fresh, fun i hi => m.base i (by omega)⟩
  · have hlt : b < w.heap.size := by have := m.size; omega
    rw [m'.keeps b hlt (fun hb' => by
      rcases m.mof hb' with h' | h'
      · omega
      · exact hn h')]
    exact m.keeps b hb hn
  · obtain ⟨h1, b, s, h2, h3⟩ := m'.obj i ob hi
    refine ⟨h1, b, s, h2, ?_⟩
    rcases h3 with h3 | h3 | ⟨hf, hs, cur, T, fr, vs, post, g1, g2, g3, g4, g5, g6, g7⟩
    · exact .inl h3
    · exact .inr (.inl h3)
    · exact .inr (.inr ⟨hf, hs, cur, T, fr, vs, post, g1, g2, g3, g4, g5, g6, hM g7⟩)
  · rcases m'.newP b hb with h1 | h1 | h1
    · exact m.newP b h1
    · exact .inr (hM (.inl h1))
    · exact .inr (hM (.inr h1))

mutual
theorem frzV_ok : ∀ (A : AV) (h : List AO) (E : Env), Mem B E h w → ∀ {C : Option Prop} {A' : AV} {h' : List AO}, frzV h A = some (C, A', h') → holds C → ∀ v, rel E A v → ∃ E', E.le E' ∧ Mem B E' h' w ∧ rel E' A' v
  | .agg l, h, E, m, C, A', h', hf, hC, v, r => by
    simp only [frzV] at hf
    split at hf
    · rename_i C' l' h'' hl
      cases hf
      simp only [rel] at r
      obtain ⟨vs, rfl, r1, r2⟩ := r
      obtain ⟨E', k1, k2, k3⟩ := frzL_ok l h E m hl hC _ r1
      exact ⟨E', k1, k2, by simp only [rel]; exact ⟨vs, rfl, k3, r2⟩⟩
    · cases hf
  | .ms nil i e o n sz, h, E, m, C, A', h', hf, hC, v, r => by
    simp only [frzV] at hf
    split at hf
    · rename_i ob hob
      split at hf
      · rename_i hep
        split at hf
        · rename_i C' d hd
          cases hf
          have hob' : h[i]? = some ob := by rw [← hget_eq]; exact hob
          obtain ⟨E', k1, k2, k3, k4⟩ := m.freeze hob'
          obtain rfl := Nat.eq_of_beq_eq_true hep
          refine ⟨E', k1, by rw [hset_eq]; exact k2, ?_⟩
          exact rel_ms_sl k2 (ob := { ob with fz := true }) (by rw [List.getElem?_set_self (List.getElem?_eq_some_iff.1 hob').1]) rfl (rel.mono k1 _ _ r) (by rw [← mulz_eq]; exact hd) hC
        · cases hf
      · cases hf
    · cases hf
  | .any, h, E, m, C, A', h', hf, hC, v, r | .undef, h, E, m, C, A', h', hf, hC, v, r | .int _, h, E, m, C, A', h', hf, hC, v, r | .u8 _, h, E, m, C, A', h', hf, hC, v, r | .u32 _, h, E, m, C, A', h', hf, hC, v, r
  | .u64 _, h, E, m, C, A', h', hf, hC, v, r | .bool _, h, E, m, C, A', h', hf, hC, v, r | .str _, h, E, m, C, A', h', hf, hC, v, r | .nilp, h, E, m, C, A', h', hf, hC, v, r | .ptr _ _ _, h, E, m, C, A', h', hf, hC, v, r
  | .rop _, h, E, m, C, A', h', hf, hC, v, r | .sl _ _ _ _ _, h, E, m, C, A', h', hf, hC, v, r | .ab _, h, E, m, C, A', h', hf, hC, v, r | .ai _, h, E, m, C, A', h', hf, hC, v, r | .au _, h, E, m, C, A', h', hf, hC, v, r
  | .tup _, h, E, m, C, A', h', hf, hC, v, r | .fn _ _, h, E, m, C, A', h', hf, hC, v, r | .nilf, h, E, m, C, A', h', hf, hC, v, r | .iface _ _, h, E, m, C, A', h', hf, hC, v, r | .nili, h, E, m, C, A', h', hf, hC, v, r => by
    simp only [frzV] at hf; cases hf; exact ⟨E, Env.le.refl E, m, r⟩
theorem frzL_ok : ∀ (l : List AV) (h : List AO) (E : Env), Mem B E h w → ∀ {C : Option Prop} {l' : List AV} {h' : List AO}, frzL h l = some (C, l', h') → holds C → ∀ vs, relL E l vs → ∃ E', E.le E' ∧ Mem B E' h' w ∧ relL E' l' vs
  | [], h, E, m, C, l', h', hf, hC, vs, r => by simp only [frzL] at hf; cases hf; exact ⟨E, Env.le.refl E, m, r⟩
  | a :: l, h, E, m, C, l', h', hf, hC, vs, r => by
    simp only [frzL] at hf
    split at hf
    · rename_i C1 a' h1 ha
      split at hf
      · rename_i D l1 h2 hl
        cases hf
        obtain ⟨c1, c2⟩ := holds_both.1 hC
        simp only [relL] at r
        obtain ⟨u, us, rfl, r1, r2⟩ := r
        obtain ⟨E1, k1, k2, k3⟩ := frzV_ok a h E m ha c1 u r1
        obtain ⟨E2, q1, q2, q3⟩ := frzL_ok l h1 E1 k2 hl c2 us (relL.mono k1 _ _ r2)
        exact ⟨E2, k1.trans q1, q2, by simp only [relL]; exact ⟨u, us, rfl, rel.mono q1 _ _ k3, q3⟩⟩
      · cases hf
    · cases hf
end

theorem calls_of (m : Mem B E h w) {f : FuncId} {as : List AV} {vs : List Value} (hr : relL E as vs) {K : AV → List AO → Prop} (hA : ACalls P f as h K) :
    Calls P f vs.toArray w (fun e w' => ∃ v r h', e = .returned v ∧ K r h' ∧ Post B E h' r v w') := by
  refine Calls.mono (hA E w vs hr m.enter) fun e w' hh => ?_
  obtain ⟨v, r, h', E', rfl, k1, k2, k3, k4⟩ := hh
  exact ⟨v, r, h', rfl, k1, E', k3.le, m.back k3 k2, k4⟩

theorem Mem.reset (m : Mem B E h w) {i : Nat} {ob : AO} {c : AV} {b s : Nat} (hi : h[i]? = some ob) (hf : ob.fz = false) (hι : E.ι i = some (b, s)) (hs : 0 < s) (hrow : rowO E B.w0.heap.size B.M w c b s) : Mem B E (h.set i ⟨ob.ep, c, false⟩) w := by
  have hlt := (List.getElem?_eq_some_iff.1 hi).1
  have get : ∀ {k : Nat} {ok : AO}, (h.set i ⟨ob.ep, c, false⟩)[k]? = some ok → (k = i ∧ ok = ⟨ob.ep, c, false⟩) ∨ (k ≠ i ∧ h[k]? = some ok) := fun {k ok} hk => by
    by_cases e : k = i
    · subst e; rw [List.getElem?_set_self hlt] at hk; cases hk; exact .inl ⟨rfl, rfl⟩
    · rw [List.getElem?_set_ne (Ne.symm e)] at hk; exact .inr ⟨e, hk⟩
  refine ⟨m.le, m.size, m.os, m.tape, m.output, m.keeps, m.sat, fun k ok hk => ?_, fun j k oj ok b1 s1 t1 hj hk fj fk => ?_, m.newP, fun j hj => m.fresh j (by simpa using hj), fun j hj => m.base j (by simpa using hj)⟩
  · rcases get hk with ⟨rfl, rfl⟩ | ⟨_, hk⟩
    · exact ⟨(m.obj _ ob hi).1, b, s, hι, .inr (.inr ⟨rfl, hs, hrow⟩)⟩
    · exact m.obj _ ok hk
  · have fix : ∀ {k : Nat} {ok : AO}, (h.set i ⟨ob.ep, c, false⟩)[k]? = some ok → ok.fz = false → ∃ o', h[k]? = some o' ∧ o'.fz = false := fun {k ok} hk fk => by
      rcases get hk with ⟨rfl, rfl⟩ | ⟨_, hk⟩
      · exact ⟨ob, hi, hf⟩
      · exact ⟨ok, hk, fk⟩
    obtain ⟨oj', hj', fj'⟩ := fix hj fj
    obtain ⟨ok', hk', fk'⟩ := fix hk fk
    exact m.inj j k oj' ok' b1 s1 t1 hj' hk' fj' fk'
theorem frzI_ok (m : Mem B E h w) {i : Nat} {C : Option Prop} {h' : List AO} (hf : frzI h i = some (C, h')) (hC : holds C) : ∃ E', E.le E' ∧ Mem B E' h' w := by
  have triv : some (none, h) = some (C, h') → ∃ E', E.le E' ∧ Mem B E' h' w := fun e => by cases e; exact ⟨E, Env.le.refl E, m⟩
  unfold frzI at hf
  split at hf
  · rename_i ob hob
    split at hf
    · rename_i l hc
      split at hf
      · rename_i hms
        split at hf
        · rename_i hfz
          split at hf
          · rename_i C' l' h1 hl
            split at hf
            · rename_i ob' hob'
              split at hf
              · rename_i hfz'
                split at hf
                · rename_i hep
                  cases hf
                  have hep := Nat.eq_of_beq_eq_true hep
                  rw [hget_eq] at hob hob'
                  obtain ⟨q1, b, s, q2, q3⟩ := m.obj i ob hob
                  rcases q3 with ⟨_, g2⟩ | ⟨g0, _⟩ | ⟨g0, g1, cur, T, fr, vs, post, g2, g3, g4, g5, g6, g7, g8⟩
                  · rw [hc] at g2
                    simp only [relC] at g2
                    have := relL_length g2.1
                    have : l = [] := List.eq_nil_of_length_eq_zero (by simpa using this.symm)
                    subst this
                    simp [hasMsL] at hms
                  · rw [hfz] at g0; cases g0
                  · rw [hc] at g6
                    simp only [relC] at g6
                    obtain ⟨E', le, m', r'⟩ := frzL_ok l h E m hl hC vs g6.1
                    obtain ⟨p1, b', s', p2, p3⟩ := m'.obj i ob' hob'
                    have hι : E'.ι i = E.ι i := by
                      rcases le.ι i (by rw [q2]; simp) with ⟨_, e⟩ | ⟨e, _⟩
                      · exact e
                      · exfalso; rw [p1, q1, hep] at e; exact Nat.lt_irrefl _ e
                    rw [hι, q2] at p2
                    cases p2
                    rcases p3 with ⟨p3, _⟩ | ⟨p3, _⟩ | ⟨_, _, cur', T', fr', vs', post', k2, k3, k4, k5, k6, k7, k8⟩
                    · omega
                    · rw [hfz'] at p3; cases p3
                    · refine ⟨E', le, ?_⟩
                      rw [hset_eq, ← hep]
                      exact m'.reset hob' hfz' (by rw [hι, q2]) g1 ⟨cur, T, fr, vs, post, g2, g3, g4, g5, ⟨r', g6.2⟩, k7, k8⟩
                · cases hf
              · cases hf
            · cases hf
          · cases hf
        · exact triv hf
      · exact triv hf
    · exact triv hf
  · exact triv hf
theorem frzJ_ok (m : Mem B E h w) {i : Nat} {C : Option Prop} {h' : List AO} (hf : frzJ h i = some (C, h')) (hC : holds C) : ∃ E', E.le E' ∧ Mem B E' h' w := by
  have triv : some (none, h) = some (C, h') → ∃ E', E.le E' ∧ Mem B E' h' w := fun e => by cases e; exact ⟨E, Env.le.refl E, m⟩
  unfold frzJ at hf
  split at hf
  · split at hf
    · split at hf
      · split at hf
        · exact frzI_ok m hf hC
        · exact triv hf
      · exact triv hf
    · exact triv hf
  · exact triv hf
theorem frzA_ok : ∀ (n : Nat) {E : Env} {h : List AO} {C : Option Prop} {h' : List AO}, Mem B E h w → frzA n h = some (C, h') → holds C → ∃ E', E.le E' ∧ Mem B E' h' w
  | 0, E, h, C, h', m, hf, _ => by cases hf; exact ⟨E, Env.le.refl E, m⟩
  | i + 1, E, h, C, h', m, hf, hC => by
    simp only [frzA] at hf
    split at hf
    · rename_i C1 h1 h2
      split at hf
      · rename_i C2 h3 h4
        cases hf
        obtain ⟨c1, c2⟩ := holds_both.1 hC
        obtain ⟨E1, le1, m1⟩ := frzJ_ok m h2 c1
        obtain ⟨E2, le2, m2⟩ := frzA_ok i m1 h4 c2
        exact ⟨E2, le1.trans le2, m2⟩
      · cases hf
    · cases hf
theorem frzC_ok (l : List AV) (h : List AO) (E : Env) (m : Mem B E h w) {C : Option Prop} {l' : List AV} {h' : List AO} (hf : frzC h l = some (C, l', h')) (hC : holds C) (vs) (r : relL E l vs) : ∃ E', E.le E' ∧ Mem B E' h' w ∧ relL E' l' vs := by
  unfold frzC at hf
  split at hf
  · rename_i D as' h1 h2
    split at hf
    · cases hf; exact frzL_ok l h E m h2 hC vs r
    · split at hf
      · rename_i F h3 h4
        cases hf
        obtain ⟨c1, c2⟩ := holds_both.1 hC
        obtain ⟨E1, q1, q2, q3⟩ := frzL_ok l h E m h2 c1 vs r
        obtain ⟨E2, le2, m2⟩ := frzA_ok _ q2 h4 c2
        exact ⟨E2, q1.trans le2, m2, relL.mono le2 _ _ q3⟩
      · cases hf
  · cases hf
theorem relL_xvs (hg : ∀ k, rel E (g k) (a.tmps.getD k undef)) : ∀ xs : List Operand, relL E (xvs g (xs.map xof)) (xs.map a.eval)
  | [] => by simp only [List.map_nil, xvs, relL]
  | x :: xs => by simp only [List.map_cons, xvs, relL]; exact ⟨_, _, rfl, rel_x hg x, relL_xvs hg xs⟩

theorem call_ok (m : Mem B E h w) (hsp : SpOK P sp) (hg : ∀ k, rel E (g k) (a.tmps.getD k undef)) {c : Call} {f : Operand} (ho : o.op = .call c) (hc : c.callee = .value f) {C : Option Prop} {R : AV} :
    (evCall sp h (xv g (xof f)) (xvs g (c.args.toList.map xof)) = .v C R → holds C → Gives P o a w (Post B E h R)) ∧
    (∀ h', evCall sp h (xv g (xof f)) (xvs g (c.args.toList.map xof)) = .e C R h' → holds C → Gives P o a w (Post B E h' R)) := by
  have hf := rel_x hg f
  have has := relL_xvs hg (a := a) c.args.toList
  -- the run up to the call
  have run : ∀ {F : Nat} {caps : List AV} {e : SpE}, xv g (xof f) = .fn F caps → sfind sp F = some e → ∃ us vs : List Value, relL E (xvs g (c.args.toList.map xof)) us ∧ relL E caps vs ∧ (execOp a.eval o).run P w = .ok (.enter F (us ++ vs).toArray) w := fun {F caps e} hx he => by
    rw [hx] at hf
    simp only [rel] at hf
    obtain ⟨cv, hf, hcap⟩ := hf
    refine ⟨c.args.toList.map a.eval, cv.toList, has, hcap, ?_⟩
    have h1 := (hsp F e he).2 (c.args.map a.eval ++ cv) w
    have h2 : (c.args.toList.map a.eval ++ cv.toList).toArray = c.args.map a.eval ++ cv := by
      apply Array.ext'; simp
    rw [h2]
    unfold execOp
    simp only [ho, resolve, hc, hf, Deferred.ofValue, Sem.run_bind, Sem.run_pure, Result.andThen_ok, invoke, Array.empty_append]
    exact h1
  have give : ∀ {F : Nat} {as : List AV} {vs : List Value} {E' : Env} {h0 : List AO} {h1 : List AO}, E.le E' → Mem B E' h0 w → relL E' as vs → (execOp a.eval o).run P w = .ok (.enter F vs.toArray) w → ACalls P F as h0 (fun r h' => r = R ∧ h' = h1) → Gives P o a w (Post B E h1 R) := fun le m' hr hrun hA => by
    refine .inr (.inr ⟨_, _, hrun, Calls.mono (calls_of m' hr hA) fun e w' hh => ?_⟩)
    obtain ⟨v, r, h', rfl, ⟨rfl, rfl⟩, E2, q1, q2, q3⟩ := hh
    exact ⟨v, rfl, E2, le.trans q1, q2, q3⟩
  have both' : ∀ {F : Nat} {caps : List AV} {e : SpE}, xv g (xof f) = .fn F caps → sfind sp F = some e →
      (∀ {as h0 C A}, e.f as h0 = .v C A → holds C → ACalls P F as h0 (fun r h' => r = A ∧ h' = h0)) ∧ (∀ {as h0 C A h1}, e.f as h0 = .e C A h1 → holds C → ACalls P F as h0 (fun r h' => r = A ∧ h' = h1)) := fun {F caps e} hx he => by
    have := (hsp F e he).1
    exact ⟨fun {as h0 C A} h1 => by have := this as h0; rw [h1] at this; exact this, fun {as h0 C A h1} h2 => by have := this as h0; rw [h2] at this; exact this⟩
  constructor
  · intro hev hC
    unfold evCall at hev
    split at hev
    · rename_i F caps hx
      split at hev
      · rename_i e he
        obtain ⟨us, vs, r1, r3, r2⟩ := run hx he
        have r13 : relL E (lapp (xvs g (c.args.toList.map xof)) caps) (us ++ vs) := by rw [lapp_eq]; exact relL_app r1 r3
        split at hev
        · exact give (Env.le.refl E) m r13 r2 ((both' hx he).1 hev hC)
        · split at hev
          · exact give (Env.le.refl E) m r13 r2 ((both' hx he).1 hev hC)
          · split at hev
            · split at hev <;> cases hev
            · cases hev
      · cases hev
    · cases hev
  · intro h' hev hC
    unfold evCall at hev
    split at hev
    · rename_i F caps hx
      split at hev
      · rename_i e he
        obtain ⟨us, vs, r1, r3, r2⟩ := run hx he
        have r13 : relL E (lapp (xvs g (c.args.toList.map xof)) caps) (us ++ vs) := by rw [lapp_eq]; exact relL_app r1 r3
        split at hev
        · exact give (Env.le.refl E) m r13 r2 ((both' hx he).2 hev hC)
        · split at hev
          · exact give (Env.le.refl E) m r13 r2 ((both' hx he).2 hev hC)
          · split at hev
            · rename_i D as' h0 hfr
              split at hev
              · rename_i C' A' hf'
                cases hev
                obtain ⟨c1, c2⟩ := holds_both.1 hC
                obtain ⟨E1, q1, q2, q3⟩ := frzC_ok _ h E m hfr c1 us r1
                exact give q1 q2 (by rw [lapp_eq]; exact relL_app q3 (relL.mono q1 _ _ r3)) r2 ((both' hx he).1 hf' c2)
              · rename_i C' A' h'' hf'
                cases hev
                obtain ⟨c1, c2⟩ := holds_both.1 hC
                obtain ⟨E1, q1, q2, q3⟩ := frzC_ok _ h E m hfr c1 us r1
                exact give q1 q2 (by rw [lapp_eq]; exact relL_app q3 (relL.mono q1 _ _ r3)) r2 ((both' hx he).2 hf' c2)
              · cases hev
            · cases hev
      · cases hev
    · cases hev

end
end Go.Abs

namespace Go.Abs

mutual
def ren (ρ : Nat → Nat) : AV → AV
  | .ptr i e o => .ptr (ρ i) e o
  | .rop c => .rop (ren ρ c)
  | .sl nil n sz c full => .sl nil n sz (ren ρ c) full
  | .ms nil i e o n sz => .ms nil (ρ i) e o n sz
  | .agg l => .agg (renL ρ l)
  | .tup l => .tup (renL ρ l)
  | .fn f l => .fn f (renL ρ l)
  | .iface t v => .iface t (ren ρ v)
  | .any => .any | .undef => .undef | .int n => .int n | .u8 x => .u8 x | .u32 x => .u32 x | .u64 x => .u64 x | .bool b => .bool b | .str l => .str l | .nilp => .nilp
  | .ab l => .ab l | .ai l => .ai l | .au l => .au l | .nilf => .nilf | .nili => .nili
def renL (ρ : Nat → Nat) : List AV → List AV
  | [] => []
  | a :: l => ren ρ a :: renL ρ l
end
def Env.pull (E : Env) (ρ : Nat → Nat) : Env := { p := E.p, ι := fun j => E.ι (ρ j), ep := fun j => E.ep (ρ j) }

mutual
theorem rel_ren {E : Env} {ρ : Nat → Nat} : ∀ (A : AV) (v : Value), rel E (ren ρ A) v ↔ rel (E.pull ρ) A v
  | .ptr i e o, v => by simp only [ren, rel, Env.pull]
  | .rop c, v => by
    simp only [ren, rel]
    exact exists_congr fun b => exists_congr fun o => exists_congr fun vs => and_congr_right fun _ => and_congr_right fun _ => relC_ren c vs
  | .sl nil n sz c full, v => by
    simp only [ren, rel]
    split
    · exact and_congr_right fun _ => and_congr_right fun _ => relC_ren c []
    · exact exists_congr fun a => exists_congr fun cap => exists_congr fun vs => and_congr_right fun _ => and_congr_right fun _ => and_congr_right fun _ => and_congr_right fun _ => and_congr_right fun _ => relC_ren c vs
  | .ms nil i e o n sz, v => by simp only [ren, rel, Env.pull]
  | .agg l, v => by
    simp only [ren, rel]
    exact exists_congr fun vs => and_congr_right fun _ => and_congr (relL_ren l _) Iff.rfl
  | .tup l, v => by
    simp only [ren, rel]
    exact exists_congr fun vs => and_congr_right fun _ => relL_ren l _
  | .fn f l, v => by
    simp only [ren, rel]
    exact exists_congr fun vs => and_congr_right fun _ => relL_ren l _
  | .iface t a, v => by
    simp only [ren, rel]
    exact exists_congr fun u => and_congr_right fun _ => rel_ren a u
  | .any, v => by simp only [ren, rel]
  | .undef, v => by simp only [ren, rel]
  | .int n, v => by simp only [ren, rel]
  | .u8 n, v => by simp only [ren, rel]
  | .u32 n, v => by simp only [ren, rel]
  | .u64 n, v => by simp only [ren, rel]
  | .bool n, v => by simp only [ren, rel]
  | .str n, v => by simp only [ren, rel]
  | .nilp, v => by simp only [ren, rel]
  | .ab n, v => by simp only [ren, rel]
  | .ai n, v => by simp only [ren, rel]
  | .au n, v => by simp only [ren, rel]
  | .nilf, v => by simp only [ren, rel]
  | .nili, v => by simp only [ren, rel]
theorem relL_ren {E : Env} {ρ : Nat → Nat} : ∀ (l : List AV) (vs : List Value), relL E (renL ρ l) vs ↔ relL (E.pull ρ) l vs
  | [], vs => by simp only [renL, relL]
  | a :: l, vs => by
    simp only [renL, relL]
    exact exists_congr fun u => exists_congr fun us => and_congr_right fun _ => and_congr (rel_ren a u) (relL_ren l us)
theorem relC_ren {E : Env} {ρ : Nat → Nat} : ∀ (A : AV) (vs : List Value), relC E (ren ρ A) vs ↔ relC (E.pull ρ) A vs
  | .agg l, vs => by simp only [ren, relC]; exact and_congr (relL_ren l vs) Iff.rfl
  | .ab _, vs => by simp only [ren, relC]
  | .ai _, vs => by simp only [ren, relC]
  | .au _, vs => by simp only [ren, relC]
  | .any, _ | .undef, _ | .int _, _ | .u8 _, _ | .u32 _, _ | .u64 _, _ | .bool _, _ | .str _, _ | .nilp, _ | .ptr _ _ _, _ | .rop _, _
  | .sl _ _ _ _ _, _ | .ms _ _ _ _ _ _, _ | .tup _, _ | .fn _ _, _ | .nilf, _ | .iface _ _, _ | .nili, _ => by simp only [ren, relC]
end

/-- Where the callee's objects lie among the caller's: the given ones, then new ones. -/
def rho (ns : List Nat) (k : Nat) (j : Nat) : Nat := match ns[j]? with | some i => i | none => k + (j - ns.length)
def idx : List Nat → Nat → Option Nat
  | [], _ => none
  | i :: ns, k => if k = i then some 0 else (idx ns k).map (· + 1)
theorem idx_some : ∀ {ns : List Nat} {k j : Nat}, idx ns k = some j → ns[j]? = some k
  | [], _, _, h => by cases h
  | i :: ns, k, j, h => by
    simp only [idx] at h
    split at h
    · rename_i e; cases h; simp [e]
    · cases hi : idx ns k with
      | none => rw [hi] at h; cases h
      | some j' => rw [hi] at h; cases h; simpa using idx_some hi
theorem idx_none : ∀ {ns : List Nat} {k : Nat}, idx ns k = none → k ∉ ns
  | [], _, _ => by simp
  | i :: ns, k, h => by
    simp only [idx] at h
    split at h
    · cases h
    · rename_i e
      cases hi : idx ns k with
      | none => simp [e, idx_none hi]
      | some j => rw [hi] at h; cases h
theorem idx_get : ∀ {ns : List Nat}, ns.Nodup → ∀ {k j : Nat}, ns[j]? = some k → idx ns k = some j
  | [], _, _, _, h => by simp at h
  | i :: ns, hn, k, j, h => by
    simp only [idx]
    cases j with
    | zero => simp at h; simp [h]
    | succ j =>
      have hm : ns[j]? = some k := by simpa using h
      have hne : k ≠ i := fun e => by
        subst e; exact (List.nodup_cons.1 hn).1 (List.mem_of_getElem? hm)
      rw [if_neg hne, idx_get (List.nodup_cons.1 hn).2 hm]; rfl

def renO (ρ : Nat → Nat) (o : AO) : AO := ⟨o.ep, ren ρ o.c, o.fz⟩
/-- The caller's heap behind the call. -/
structure Patched (ns : List Nat) (h h1' h' : List AO) : Prop where
  len : h'.length = h.length + (h1'.length - ns.length)
  le : ns.length ≤ h1'.length
  old : ∀ i, i < h.length → i ∉ ns → h'[i]? = h[i]?
  own : ∀ j, j < h1'.length → h'[rho ns h.length j]? = (h1'[j]?).map (renO (rho ns h.length))

section
variable {P : Program} {ns : List Nat} {h h1 h1' h' : List AO}

theorem acalls_local (hnd : ns.Nodup) {f : FuncId} {args args1 : List AV} {R1 : AV} (hargs : args = renL (rho ns h.length) args1) (hlen : h1.length = ns.length)
    (hin : ∀ j o1, h1[j]? = some o1 → h[rho ns h.length j]? = some (renO (rho ns h.length) o1)) (hc : ACalls P f args1 h1 (fun r hh => r = R1 ∧ hh = h1')) (hp : Patched ns h h1' h') :
    ACalls P f args h (fun r hh => r = ren (rho ns h.length) R1 ∧ hh = h') := by
  intro E w vs hvs m
  subst hargs
  have hin' : ∀ j, j < ns.length → ∃ i o1, ns[j]? = some i ∧ rho ns h.length j = i ∧ i < h.length ∧ h1[j]? = some o1 := fun j hj => by
    have h1j : h1[j]? = some h1[j] := by simp
    have hnj : ns[j]? = some ns[j] := by simp
    have hr : rho ns h.length j = ns[j] := by unfold rho; rw [hnj]
    refine ⟨ns[j], h1[j], hnj, hr, ?_, h1j⟩
    have := hin j _ h1j
    rw [hr] at this
    exact (List.getElem?_eq_some_iff.1 this).1
  have hbig : ∀ j, ns.length ≤ j → rho ns h.length j = h.length + (j - ns.length) := fun j hj => by
    unfold rho; rw [List.getElem?_eq_none_iff.2 hj]
  have hlt : ∀ i ∈ ns, i < h.length := fun i hi => by
    obtain ⟨j, hj, e⟩ := List.getElem_of_mem hi
    obtain ⟨i', _, h2, h3, h4, _⟩ := hin' j hj
    rw [List.getElem?_eq_getElem hj, e] at h2
    cases h2; exact h4
  -- the callee's view
  have m1 : Mem ⟨w, E.pull (rho ns h.length), fun b => ∃ i ob s, h1[i]? = some ob ∧ ob.fz = false ∧ (E.pull (rho ns h.length)).ι i = some (b, s) ∧ 0 < s⟩ (E.pull (rho ns h.length)) h1 w := by
    refine ⟨Env.le.refl _, Nat.le_refl _, rfl, rfl, rfl, fun _ _ _ => rfl, m.sat, fun j o1 hj => ?_, fun j j' oj oj' b s t hj hj' fj fj' hb hb' hs ht => ?_, fun b hb => .inl hb, fun j hj => ?_, fun j hj => ?_⟩
    · obtain ⟨q1, b, s, q2, q3⟩ := m.obj _ _ (hin j o1 hj)
      refine ⟨q1, b, s, q2, ?_⟩
      rcases q3 with ⟨g1, g2⟩ | ⟨g0, vs, g1, g2⟩ | ⟨g0, g1, cur, T, fr, vs, post, g2, g3, g4, g5, g6, g7, g8⟩
      · exact .inl ⟨g1, (relC_ren _ _).1 g2⟩
      · exact .inr (.inl ⟨g0, vs, g1, (relC_ren _ _).1 g2⟩)
      · exact .inr (.inr ⟨g0, g1, cur, T, fr, vs, post, g2, g3, g4, g5, (relC_ren _ _).1 g6, g7, .inr ⟨j, o1, s, hj, g0, q2, g1⟩⟩)
    · have e := m.inj _ _ _ _ b s t (hin j oj hj) (hin j' oj' hj') fj fj' hb hb' hs ht
      have l1 := (List.getElem?_eq_some_iff.1 hj).1
      have l2 := (List.getElem?_eq_some_iff.1 hj').1
      obtain ⟨i, _, n1, r1, _⟩ := hin' j (by omega)
      obtain ⟨i', _, n2, r2, _⟩ := hin' j' (by omega)
      have e' : i = i' := by rw [← r1, ← r2]; exact e
      subst e'
      have := idx_get hnd n1
      rw [idx_get hnd n2] at this
      exact (Option.some.inj this).symm
    · have := m.fresh (rho ns h.length j) (by rw [hbig j (by omega)]; omega)
      exact this
    · exact (m.fresh (rho ns h.length j) (by rw [hbig j (by omega)]; omega)).1
  refine Calls.mono (hc (E.pull (rho ns h.length)) w vs ((relL_ren _ _).1 hvs) m1) fun e w' hh => ?_
  obtain ⟨v, r, hh', E1', rfl, ⟨rfl, rfl⟩, hl', m', hr'⟩ := hh
  -- back
  have hM : ∀ {b : Nat}, (∃ i ob s, h1[i]? = some ob ∧ ob.fz = false ∧ (E.pull (rho ns h.length)).ι i = some (b, s) ∧ 0 < s) → ∃ i ob s, h[i]? = some ob ∧ ob.fz = false ∧ E.ι i = some (b, s) ∧ 0 < s := fun {b} hb => by
    obtain ⟨j, ob, s, k1, k2, k3, k4⟩ := hb
    exact ⟨_, _, s, hin j ob k1, k2, k3, k4⟩
  let E' : Env := { p := E1'.p, ι := fun i => match idx ns i with | some j => E1'.ι j | none => if i < h.length then E.ι i else E1'.ι (ns.length + (i - h.length)), ep := fun i => match idx ns i with | some j => E1'.ep j | none => if i < h.length then E.ep i else E1'.ep (ns.length + (i - h.length)) }
  have hback : ∀ j, idx ns (rho ns h.length j) = (if j < ns.length then some j else none) := fun j => by
    split
    · rename_i hj
      obtain ⟨i, _, n1, r1, _⟩ := hin' j hj
      rw [r1]; exact idx_get hnd n1
    · rename_i hj
      rw [hbig j (by omega)]
      cases hi : idx ns (h.length + (j - ns.length)) with
      | none => rfl
      | some k =>
        have := hlt _ (List.mem_of_getElem? (idx_some hi))
        omega
  have hpull : E'.pull (rho ns h.length) = E1' := by
    have e1 : ∀ j, E'.ι (rho ns h.length j) = E1'.ι j := fun j => by
      show (match idx ns (rho ns h.length j) with | some j => E1'.ι j | none => _) = _
      rw [hback j]
      by_cases hj : j < ns.length
      · rw [if_pos hj]
      · rw [if_neg hj]
        simp only
        rw [hbig j (by omega), if_neg (by omega)]
        congr 1; omega
    have e2 : ∀ j, E'.ep (rho ns h.length j) = E1'.ep j := fun j => by
      show (match idx ns (rho ns h.length j) with | some j => E1'.ep j | none => _) = _
      rw [hback j]
      by_cases hj : j < ns.length
      · rw [if_pos hj]
      · rw [if_neg hj]
        simp only
        rw [hbig j (by omega), if_neg (by omega)]
        congr 1; omega
    unfold Env.pull
    rw [funext e1, funext e2]
  have hι : ∀ i, idx ns i = none → i < h.length → E'.ι i = E.ι i ∧ E'.ep i = E.ep i := fun i hi hl => by
    constructor
    · show (match idx ns i with | some j => E1'.ι j | none => _) = _
      rw [hi]; simp only; rw [if_pos hl]
    · show (match idx ns i with | some j => E1'.ep j | none => _) = _
      rw [hi]; simp only; rw [if_pos hl]
  have pull_ι : ∀ j, E1'.ι j = E'.ι (rho ns h.length j) := fun j => by rw [← hpull]; rfl
  have pull_ep : ∀ j, E1'.ep j = E'.ep (rho ns h.length j) := fun j => by rw [← hpull]; rfl
  have le : E.le E' := by
    refine ⟨fun b cs hb => m'.le.p b cs hb, fun i hi => ?_⟩
    have hl : i < h.length := by
      rcases Nat.lt_or_ge i h.length with hh | hh
      · exact hh
      · exact absurd (m.fresh i hh).1 hi
    cases hx : idx ns i with
    | none => obtain ⟨a1, a2⟩ := hι i hx hl; exact .inl ⟨a2, a1⟩
    | some j =>
      have hj : j < ns.length := (List.getElem?_eq_some_iff.1 (idx_some hx)).1
      have hrj : rho ns h.length j = i := by unfold rho; rw [idx_some hx]
      have := m'.le.ι j (show E.ι (rho ns h.length j) ≠ none by rw [hrj]; exact hi)
      rw [pull_ι, pull_ep, hrj] at this
      simp only [Env.pull, hrj] at this
      exact this
  -- which objects are whose
  have kinds : ∀ i ob', h'[i]? = some ob' → (idx ns i = none ∧ i < h.length ∧ h[i]? = some ob') ∨ ∃ j o1, i = rho ns h.length j ∧ hh'[j]? = some o1 ∧ ob' = renO (rho ns h.length) o1 := fun i ob' hi => by
    have hil := (List.getElem?_eq_some_iff.1 hi).1
    rw [hp.len] at hil
    cases hx : idx ns i with
    | none =>
      by_cases hl : i < h.length
      · rw [hp.old i hl (idx_none hx)] at hi
        exact .inl ⟨rfl, hl, hi⟩
      · have hle := hp.le
        have hj : ns.length + (i - h.length) < hh'.length := by omega
        have e : i = rho ns h.length (ns.length + (i - h.length)) := by rw [hbig _ (by omega)]; omega
        have := hp.own _ hj
        rw [← e, hi] at this
        cases ho : hh'[ns.length + (i - h.length)]? with
        | none => rw [ho] at this; cases this
        | some o1 => rw [ho] at this; exact .inr ⟨_, o1, e, ho, by simpa using this⟩
    | some j =>
      have hj : j < ns.length := (List.getElem?_eq_some_iff.1 (idx_some hx)).1
      have e : i = rho ns h.length j := by unfold rho; rw [idx_some hx]
      have := hp.own j (by have := hp.le; omega)
      rw [← e, hi] at this
      cases ho : hh'[j]? with
      | none => rw [ho] at this; cases this
      | some o1 => rw [ho] at this; exact .inr ⟨_, o1, e, ho, by simpa using this⟩
  -- a block of an object that the callee did not see
  have apartB : ∀ i ob' b s, idx ns i = none → h[i]? = some ob' → ob'.fz = false → E.ι i = some (b, s) → 0 < s → ¬ (∃ i ob s, h1[i]? = some ob ∧ ob.fz = false ∧ (E.pull (rho ns h.length)).ι i = some (b, s) ∧ 0 < s) := fun i ob' b s hx hi hf hb hs hex => by
    obtain ⟨j, ob, t, k1, k2, k3, k4⟩ := hex
    have := m.inj i _ ob' _ b s t hi (hin j ob k1) hf k2 hb k3 hs k4
    have hj : j < ns.length := by have := (List.getElem?_eq_some_iff.1 k1).1; omega
    rw [this, hback j, if_pos hj] at hx
    cases hx
  refine ⟨v, ren (rho ns h.length) r, h', E', rfl, ⟨rfl, rfl⟩, by rw [hp.len]; omega, ?_, (rel_ren _ _).2 (by rw [hpull]; exact hr')⟩
  refine ⟨le, m'.size, m'.os, m'.tape, m'.output, fun b hb hn => m'.keeps b hb fun hx => hn (hM hx), m'.sat, fun i ob' hi => ?_, fun i i' oi oi' b s t hi hi' fi fi' hb hb' hs ht => ?_, fun b hb => ?_, fun i hi => ?_, fun i hi => (m.fresh i (by rw [hp.len] at hi; omega)).1⟩
  · rcases kinds i ob' hi with ⟨hx, hl, ho⟩ | ⟨j, o1, rfl, ho, rfl⟩
    · obtain ⟨a1, a2⟩ := hι i hx hl
      obtain ⟨q1, b, s, q2, q3⟩ := m.obj i ob' ho
      refine ⟨a2.trans q1, b, s, a1.trans q2, ?_⟩
      rcases q3 with ⟨g1, g2⟩ | ⟨g0, vs, g1, g2⟩ | ⟨g0, g1, cur, T, fr, vs, post, g2, g3, g4, g5, g6, g7, g8⟩
      · exact .inl ⟨g1, relC.mono le _ _ g2⟩
      · exact .inr (.inl ⟨g0, vs, g1.mono le, relC.mono le _ _ g2⟩)
      · have hnm := apartB i ob' b s hx ho g0 q2 g1
        have hbl : b < w.heap.size := (Array.getElem?_eq_some_iff.1 g2).1
        refine .inr (.inr ⟨g0, g1, cur, T, fr, vs, post, by rw [m'.keeps b hbl hnm]; exact g2, g3, g4, g5, relC.mono le _ _ g6, ?_, g8⟩)
        cases hpb : E'.p b with
        | none => rfl
        | some cs =>
          rcases m'.newP b (by show E'.p b ≠ none; rw [hpb]; simp) with h1 | h1 | h1
          · exact absurd g7 h1
          · exact absurd hbl (by simpa using h1)
          · exact absurd h1 hnm
    · obtain ⟨q1, b, s, q2, q3⟩ := m'.obj j o1 ho
      refine ⟨(pull_ep j).symm.trans q1, b, s, (pull_ι j).symm.trans q2, ?_⟩
      have tr : ∀ {c : AV} {vs : List Value}, relC E1' c vs → relC E' (ren (rho ns h.length) c) vs := fun hr => (relC_ren _ _).2 (by rw [hpull]; exact hr)
      rcases q3 with ⟨g1, g2⟩ | ⟨g0, vs, g1, g2⟩ | ⟨g0, g1, cur, T, fr, vs, post, g2, g3, g4, g5, g6, g7, g8⟩
      · exact .inl ⟨g1, tr g2⟩
      · exact .inr (.inl ⟨g0, vs, g1, tr g2⟩)
      · exact .inr (.inr ⟨g0, g1, cur, T, fr, vs, post, g2, g3, g4, g5, tr g6, g7, g8.imp id hM⟩)
  · have mix : ∀ {i i' : Nat} {oi oi' : AO} {b s t : Nat}, h[i]? = some oi → idx ns i = none → i < h.length → oi.fz = false → E'.ι i = some (b, s) → 0 < s → (∃ j o1, i' = rho ns h.length j ∧ hh'[j]? = some o1 ∧ oi' = renO (rho ns h.length) o1) → oi'.fz = false → E'.ι i' = some (b, t) → 0 < t → False := fun {i i' oi oi' b s t} ho hx hl fi hb hs hj fj hb' ht => by
      obtain ⟨j, o1, rfl, hj, rfl⟩ := hj
      rw [(hι i hx hl).1] at hb
      rw [← pull_ι] at hb'
      have hnm := apartB i oi b s hx ho fi hb hs
      have hbl : b < w.heap.size := by
        obtain ⟨_, b', s', q2, q3⟩ := m.obj i oi ho
        rw [hb] at q2; cases q2
        rcases q3 with ⟨rfl, _⟩ | ⟨g0, _⟩ | ⟨_, _, cur, T, fr, vs, post, g2, _⟩
        · omega
        · rw [fi] at g0; cases g0
        · exact (Array.getElem?_eq_some_iff.1 g2).1
      obtain ⟨_, b', s', q2, q3⟩ := m'.obj j o1 hj
      rw [hb'] at q2; cases q2
      rcases q3 with ⟨rfl, _⟩ | ⟨g0, _⟩ | ⟨_, _, cur, T, fr, vs, post, g2, g3, g4, g5, g6, g7, g8⟩
      · omega
      · have : o1.fz = false := fj
        rw [this] at g0; cases g0
      · rcases g8 with g8 | g8
        · exact absurd hbl (by simpa using g8)
        · exact hnm g8
    rcases kinds i oi hi with ⟨hx, hl, ho⟩ | hj <;> rcases kinds i' oi' hi' with ⟨hx', hl', ho'⟩ | hj'
    · rw [(hι i hx hl).1] at hb
      rw [(hι i' hx' hl').1] at hb'
      exact m.inj i i' oi oi' b s t ho ho' fi fi' hb hb' hs ht
    · exact (mix ho hx hl fi hb hs hj' fi' hb' ht).elim
    · exact (mix ho' hx' hl' fi' hb' ht hj fi hb hs).elim
    · obtain ⟨j, o1, rfl, hj, rfl⟩ := hj
      obtain ⟨j', o1', rfl, hj', rfl⟩ := hj'
      rw [← pull_ι] at hb hb'
      rw [m'.inj j j' o1 o1' b s t hj hj' fi fi' hb hb' hs ht]
  · rcases m'.newP b hb with h1 | h1 | h1
    · exact .inl h1
    · exact .inr (.inl h1)
    · exact .inr (.inr (hM h1))
  · rw [hp.len] at hi
    have hx : idx ns i = none := by
      cases hx : idx ns i with
      | none => rfl
      | some j => have := hlt _ (List.mem_of_getElem? (idx_some hx)); omega
    have hle := hp.le
    have e : i = rho ns h.length (ns.length + (i - h.length)) := by rw [hbig _ (by omega)]; omega
    have := m'.fresh (ns.length + (i - h.length)) (by omega)
    rw [pull_ι, pull_ep, ← e] at this
    exact this

end
section
variable {P : Program}
mutual
theorem ren_below {ρ : Nat → Nat} : ∀ A, below 0 A = true → ren ρ A = A
  | .rop c, h => by simp only [below] at h; simp only [ren, ren_below c h]
  | .sl _ _ _ c _, h => by simp only [below] at h; simp only [ren, ren_below c h]
  | .agg l, h => by simp only [below] at h; simp only [ren, renL_below l h]
  | .tup l, h => by simp only [below] at h; simp only [ren, renL_below l h]
  | .fn _ l, h => by simp only [below] at h; simp only [ren, renL_below l h]
  | .iface _ v, h => by simp only [below] at h; simp only [ren, ren_below v h]
  | .ptr _ _ _, h => by simp [below] at h
  | .ms _ _ _ _ _ _, h => by simp [below] at h
  | .any, _ | .undef, _ | .int _, _ | .u8 _, _ | .u32 _, _ | .u64 _, _ | .bool _, _ | .str _, _ | .nilp, _ | .ab _, _ | .ai _, _ | .au _, _ | .nilf, _ | .nili, _ => by simp only [ren]
theorem renL_below {ρ : Nat → Nat} : ∀ l, belowL 0 l = true → renL ρ l = l
  | [], _ => rfl
  | a :: l, h => by
    simp only [belowL] at h
    split at h
    · rename_i ha; simp only [renL, ren_below a ha, renL_below l h]
    · cases h
end

/-- A contract that touches no object. -/
theorem acalls_pure {f : FuncId} {args : List AV} {R : AV} (hb : belowL 0 args = true) (hr : below 0 R = true) (hc : ACalls P f args [] (fun r hh => r = R ∧ hh = [])) (h : List AO) : ACalls P f args h (fun r hh => r = R ∧ hh = h) := by
  have := acalls_local (ns := []) (h := h) (h1 := []) (h1' := []) (h' := h) (args1 := args) (args := args) List.nodup_nil (renL_below args hb).symm rfl (fun j o1 hj => by simp at hj) hc
    ⟨by simp, by simp, fun i _ _ => rfl, fun j hj => by simp at hj⟩
  rw [ren_below R hr] at this
  exact this
theorem SpOK.zero {sp : Sp} (hsp : SpOK P sp) : SpOK P (sp0 sp) := by
  have key : ∀ {sp : Sp} {g : Nat} {e : SpE}, sfind (sp0 sp) g = some e → ∃ e', sfind sp g = some e' ∧ e = ⟨e'.fz, s0f e'.f⟩ := fun {sp} => by
    induction sp with
    | nil => intro g e h; cases h
    | cons x r ih =>
      obtain ⟨j, e0⟩ := x
      intro g e h
      simp only [sp0, sfind] at h ⊢
      split at h
      · cases h; exact ⟨e0, rfl, rfl⟩
      · exact ih h
  intro g e he
  obtain ⟨e', h1, rfl⟩ := key he
  obtain ⟨k1, k2⟩ := hsp g e' h1
  refine ⟨fun args h => ?_, k2⟩
  have := k1 args []
  simp only [s0f]
  cases hb : belowL 0 args with
  | false => trivial
  | true =>
    cases hf : e'.f args [] with
    | v C A =>
      rw [hf] at this
      simp only
      cases hA : below 0 A with
      | false => trivial
      | true => exact fun hC => acalls_pure hb hA (this hC) h
    | e C A h1 => trivial
    | k C h1 => trivial
    | no => trivial
theorem s0_call {sp : Sp} {f : AV} {as : List AV} {h h' : List AO} {C : Option Prop} {A : AV} (he : evCall (sp0 sp) h f as = .v C A) : evCall (sp0 sp) h' f as = .v C A := by
  have key : ∀ {sp : Sp} {g : Nat} {e : SpE}, sfind (sp0 sp) g = some e → ∀ as h h', e.f as h = e.f as h' := fun {sp} => by
    induction sp with
    | nil => intro g e h; cases h
    | cons x r ih =>
      obtain ⟨j, e0⟩ := x
      intro g e h
      simp only [sp0, sfind] at h
      split at h
      · cases h; intro as h h'; rfl
      · exact ih h
  unfold evCall at he ⊢
  split at he
  · split at he
    · rename_i e hs

      split at he
      · rename_i hz; rw [key hs _ h' h]; exact he
      · rename_i hz
        split at he
        · rename_i hm; rw [key hs _ h' h]; exact he
        · split at he
          · split at he <;> cases he
          · cases he
    · cases he
  · cases he
end
end Go.Abs

namespace Go.Abs

/-- What an operation's outcome asks. -/
def EvOK (P : Program) (o : Oper) (a : Act) (w : World) (B : Base) (E : Env) (h : List AO) : ER → Prop
  | .v C R => holds C → Gives P o a w (Post B E h R)
  | .e C R h' => holds C → Gives P o a w (Post B E h' R)
  | .k C h' => holds C → Gives P o a w (Post B E h' .undef)
  | .no => True

def onlyV : IOp → Bool
  | .alloc _ | .box _ | .bsl _ _ _ _ _ _ | .store _ _ _ | .mksl _ _ _ _ _ _ | .call _ _ | .app _ _ _ _ _ | .conv _ _ => false
  | _ => true
def isV : ER → Bool
  | .v _ _ | .no => true
  | _ => false

theorem isV_evEq {neq : Bool} {k : QK} {x y : AV} : isV (evEq neq k x y) = true := by
  unfold evEq; repeat' split
  all_goals rfl
theorem isV_evBin {op : BinOp} {x y : AV} : isV (evBin op x y) = true := by
  unfold evBin; repeat' split
  all_goals rfl
theorem isV_evConv {h : List AO} {k : CK} {x : AV} (hk : k ≠ .strb true) : isV (evConv h k x) = true := by
  unfold evConv
  split <;> first
    | rfl
    | exact absurd rfl hk
    | (split <;> rfl)
theorem isV_evUn {op : UnOp} {x : AV} : isV (evUn op x) = true := by
  unfold evUn; split <;> rfl
theorem isV_evSlice {s : Nat → AV} {sz : Nat} {x : AV} {lo hi mx : Option X} : isV (evSlice s sz x lo hi mx) = true := by
  unfold evSlice; repeat' split
  all_goals rfl
theorem isV_ofC {x : Option (Option Prop × AV)} : isV (ofC x) = true := by unfold ofC; split <;> rfl
theorem onlyV_ok {sp : Sp} {s : Nat → AV} {h : List AO} {i : IOp} (hi : onlyV i = true) : isV (ev sp s h i) = true := by
  cases i <;> simp only [onlyV, Bool.false_eq_true] at hi
  case mov => rfl
  case pick => simp only [ev]; split <;> rfl
  case build => simp only [ev]; split <;> rfl
  case load n a => cases n <;> (simp only [ev]; repeat' split) <;> first | rfl | exact isV_ofC
  case nilck => simp only [ev]; split <;> rfl
  case bin => exact isV_evBin
  case eq => exact isV_evEq
  case un => exact isV_evUn
  case mkf => rfl
  case slcS => exact isV_evSlice
  case slcA => simp only [ev]; repeat' split
               all_goals rfl
  case slcT => simp only [ev]; repeat' split
               all_goals rfl
  case fad => simp only [ev]; repeat' split
              all_goals rfl
  case iadA => simp only [ev]; repeat' split
               all_goals rfl
  case iadS => simp only [ev]; repeat' split
               all_goals rfl
  case idx => simp only [ev]; repeat' split
              all_goals rfl
  case ext => simp only [ev]; repeat' split
              all_goals rfl
  case len t x => cases t <;> (simp only [ev]; split) <;> rfl
  case cap => simp only [ev]; repeat' split
              all_goals rfl
  case mn => simp only [ev]; split <;> rfl
  case mki => rfl
  case bad => rfl

section
variable {P : Program} {ti : Nat → TInf} {B : Base} {E : Env} {h : List AO} {w : World} {g : Nat → AV} {a : Act} {o : Oper} {sp : Sp}

theorem EvOK.ofV {r : ER} (hi : isV r = true) (hv : ∀ C R, r = .v C R → holds C → Gives P o a w (Post B E h R)) : EvOK P o a w B E h r := by
  cases r with
  | v C R => exact hv C R rfl
  | no => trivial
  | e => cases hi
  | k => cases hi

theorem EvOK.bad : EvOK P o a w B E h (ev sp g h .bad) := trivial

/-- A value, in the same world. -/
theorem gv (m : Mem B E h w) {s : Sem Value} (ho : execOp a.eval o = (do pure (.value (← s)))) {A : AV} (hx : ∃ r, s.run P w = .ok r w ∧ rel E A r) : Gives P o a w (Post B E h A) := by
  obtain ⟨r, h1, h2⟩ := hx
  refine gives_same m (v := r) ?_ h2
  rw [ho]; simp [h1]
theorem gp {s : Sem Value} (ho : execOp a.eval o = (do pure (.value (← s)))) {A : AV} {h' : List AO} (hx : ∃ r w', s.run P w = .ok r w' ∧ Post B E h' A r w') : Gives P o a w (Post B E h' A) := by
  obtain ⟨r, w', h1, h2⟩ := hx
  refine gives_value (v := r) (w' := w') ?_ h2
  rw [ho]; simp [h1]

theorem gp' {s : Sem Value} (ho : ∀ r w', s.run P w = .ok r w' → (execOp a.eval o).run P w = .ok (.value r) w') {A : AV} {h' : List AO} (hx : ∃ r w', s.run P w = .ok r w' ∧ Post B E h' A r w') : Gives P o a w (Post B E h' A) := by
  obtain ⟨r, w', h1, h2⟩ := hx
  exact gives_value (ho r w' h1) h2
theorem gv' (m : Mem B E h w) {s : Sem Value} (ho : ∀ r w', s.run P w = .ok r w' → (execOp a.eval o).run P w = .ok (.value r) w') {A : AV} (hx : ∃ r, s.run P w = .ok r w ∧ rel E A r) : Gives P o a w (Post B E h A) := by
  obtain ⟨r, h1, h2⟩ := hx
  exact gives_same m (ho r w h1) h2

theorem ev_c1 {f : X → IOp} {x : X} (hf : ∀ x, ev sp g h (f x) = ev sp g h (f (.c (xv g x)))) : ev sp g h (f x) = ev sp g h (f (.c (xv g x))) := hf x

theorem mk_load (m : Mem B E h w) (hti : TIok P ti) (hg : ∀ k, rel E (g k) (a.tmps.getD k undef)) {T : TypeId} {x : Operand} (ho : o.op = .load T x) (hd : (ti T).d ≠ .other) : EvOK P o a w B E h (ev sp g h (.load (lsz (ti T)) (xof x))) := by
  have e1 : ev sp g h (.load (lsz (ti T)) (xof x)) = ev sp g h (.load (lsz (ti T)) (.c (xv g (xof x)))) := by cases lsz (ti T) <;> rfl
  refine EvOK.ofV (onlyV_ok rfl) fun C R hev hC => gv m (s := Instr.loadAt T (a.eval x)) (by unfold execOp; simp only [ho]) ?_
  exact load_ok m hti hd (rel_x hg x) (e1 ▸ hev) hC

theorem mk_store (m : Mem B E h w) (hti : TIok P ti) (hg : ∀ k, rel E (g k) (a.tmps.getD k undef)) {T : TypeId} {x y : Operand} (ho : o.op = .store T x y) (hd : (ti T).d ≠ .other) (hz : (ti T).size ≠ 0) : EvOK P o a w B E h (ev sp g h (.store (lsz (ti T)) (xof x) (xof y))) := by
  have e1 : ev sp g h (.store (lsz (ti T)) (xof x) (xof y)) = ev sp g h (.store (lsz (ti T)) (.c (xv g (xof x))) (.c (xv g (xof y)))) := by cases lsz (ti T) <;> rfl
  cases hr : ev sp g h (.store (lsz (ti T)) (xof x) (xof y)) with
  | no => trivial
  | k C h' =>
    intro hC
    obtain ⟨w', h1, h2⟩ := store_ok (P := P) (sp := sp) (g := g) m hti hd hz (rel_x hg x) (rel_x hg y) (e1 ▸ hr) hC
    refine .inr (.inl ⟨w', ?_, E, Env.le.refl E, h2, by simp only [rel]⟩)
    unfold execOp; simp only [ho]; simp [h1]
  | v C R => cases hl : lsz (ti T) <;> rw [hl] at hr <;> simp only [ev] at hr <;> (repeat' split at hr) <;> cases hr
  | e C R h' => cases hl : lsz (ti T) <;> rw [hl] at hr <;> simp only [ev] at hr <;> (repeat' split at hr) <;> cases hr

theorem mk_conv (m : Mem B E h w) (hti : TIok P ti) (hg : ∀ k, rel E (g k) (a.tmps.getD k undef)) {s d : TypeId} {x : Operand} (ho : o.op = .convert s d x) {k : CK} (hk : convOf (ti s).d (ti d).d = some k) : EvOK P o a w B E h (ev sp g h (.conv k (xof x))) := by
  have hv : isV (ev sp g h (.conv k (xof x))) = true := by
    refine isV_evConv fun e => ?_
    subst e
    unfold convOf at hk
    split at hk <;> cases hk
  refine EvOK.ofV hv fun C R hev hC => gv m (s := convert s d (a.eval x)) (by unfold execOp; simp only [ho]) ?_
  exact conv_int_ok hti hk (rel_x hg x) (by simpa only [ev] using hev)

theorem mk_strb (m : Mem B E h w) (hti : TIok P ti) (hg : ∀ k, rel E (g k) (a.tmps.getD k undef)) {s d e : TypeId} {x : Operand} (ho : o.op = .convert s d x) (hs : (ti s).d = .str) (hd : (ti d).d = .slice e) (he : (ti e).d = .u8) {mm : Bool} :
    EvOK P o a w B E h (ev sp g h (.conv (.strb mm) (xof x))) := by
  have hx := rel_x hg x
  simp only [ev]
  unfold evConv
  split <;> try contradiction
  all_goals try trivial
  · rename_i l hc hl
    cases hc
    rw [hl] at hx
    intro _
    obtain ⟨r, w', h1, h2, _⟩ := strb_ok (P := P) m hti hs hd he hx
    exact gp (s := convert s d (a.eval x)) (by unfold execOp; simp only [ho]) ⟨r, w', h1, h2⟩
  · rename_i l hc hl
    cases hc
    rw [hl] at hx
    intro _
    obtain ⟨r, w', h1, _, h2⟩ := strb_ok (P := P) m hti hs hd he hx
    exact gp (s := convert s d (a.eval x)) (by unfold execOp; simp only [ho]) ⟨r, w', h1, h2⟩


theorem AppT.mk' (hti : TIok P ti) {t tx e : TypeId} (hd : (ti t).d = .slice e) (hde : (ti e).d ≠ .other) (hx : (match (ti tx).d with | .slice _ | .str => true | _ => false) = true) (h1 : (ti e).size ≠ 0) (h2 : (ti e).bytes ≠ 0) : Nonempty (AppT P ti t tx e) := by
  have hT := (hti.get hd (by simp)).desc; rw [hd] at hT
  obtain ⟨⟨i, z, k1, k2, k3, k4, k5, k6⟩, _, _⟩ := hti.get (T := e) rfl hde
  refine ⟨i, z, hT, k1, k4, k2, k3, k6, h1, h2, ?_⟩
  split at hx
  · rename_i e' he; have := (hti.get he (by simp)).desc; rw [he] at this; exact .inl ⟨_, this⟩
  · rename_i he; have := (hti.get he (by simp)).desc; rw [he] at this; exact .inr this
  · cases hx

theorem mk_app (m : Mem B E h w) (hti : TIok P ti) (hg : ∀ k, rel E (g k) (a.tmps.getD k undef)) {c : Call} {x y : Operand} {t tx e : TypeId} (ho : o.op = .call c) (hc : c.callee = .builtin .append) (ha : c.args.toList = [x, y]) (hta : c.argTypes.toList = [t, tx])
    (T : AppT P ti t tx e) {mm : Bool} : EvOK P o a w B E h (ev sp g h (.app mm (ti e).size (ti e).bytes (xof x) (xof y))) := by
  have ha' : c.args = #[x, y] := by rw [← ha]
  have hta' : c.argTypes = #[t, tx] := by rw [← hta]
  have ho' : ∀ r w', (Builtin.append_ #[t, tx] o.type #[a.eval x, a.eval y]).run P w = .ok r w' → (execOp a.eval o).run P w = .ok (.value r) w' := fun r w' hr => by
    unfold execOp
    simp only [ho, resolve, hc, ha', hta', List.map_toArray, List.map_cons, List.map_nil, Sem.run_bind, Sem.run_pure, Result.andThen_ok, invoke, builtin, hr]
  have key := fun C R h' => app_ok (P := P) (ty := o.type) (mm := mm) m T (rel_x hg x) (rel_x hg y) (C := C) (R := R) (h' := h')
  simp only [ev]
  cases hr : evApp h mm (ti e).size (ti e).bytes (xv g (xof x)) (xv g (xof y)) with
  | v C R => exact fun hC => gp' ho' ((key C R h).1 hr hC)
  | e C R h' => exact fun hC => gp' ho' ((key C R h').2 hr hC)
  | no => trivial
  | k C h' =>
    exfalso
    unfold evApp appMs appSl at hr
    (repeat' split at hr) <;> cases hr

theorem mk_len (m : Mem B E h w) (hti : TIok P ti) (hg : ∀ k, rel E (g k) (a.tmps.getD k undef)) {c : Call} {x : Operand} {t : TypeId} (ho : o.op = .call c) (hc : c.callee = .builtin .len) (ha : c.args.toList = [x]) (hta : c.argTypes.toList = [t]) :
    ((ti t).d = .str → EvOK P o a w B E h (ev sp g h (.len true (xof x)))) ∧ (∀ e, (ti t).d = .slice e → EvOK P o a w B E h (ev sp g h (.len false (xof x)))) := by
  have ha' : c.args = #[x] := by rw [← ha]
  have hta' : c.argTypes = #[t] := by rw [← hta]
  have ho' : ∀ r w', (Builtin.len_ #[t] o.type #[a.eval x]).run P w = .ok r w' → (execOp a.eval o).run P w = .ok (.value r) w' := fun r w' hr => by
    unfold execOp
    simp only [ho, resolve, hc, ha', hta', List.map_toArray, List.map_cons, List.map_nil, Sem.run_bind, Sem.run_pure, Result.andThen_ok, invoke, builtin, hr]
  exact ⟨fun hd => EvOK.ofV (onlyV_ok rfl) fun C R hev hC => gv' m ho' (lenT_ok (sp := sp) (g := g) (h := h) hti hd (rel_x hg x) hev), fun e hd => EvOK.ofV (onlyV_ok rfl) fun C R hev hC => gv' m ho' (lenS_ok (sp := sp) (g := g) (h := h) hti hd (rel_x hg x) hev)⟩

theorem mk_cap (m : Mem B E h w) (hti : TIok P ti) (hg : ∀ k, rel E (g k) (a.tmps.getD k undef)) {c : Call} {x : Operand} {t e : TypeId} (ho : o.op = .call c) (hc : c.callee = .builtin .cap) (ha : c.args.toList = [x]) (hta : c.argTypes.toList = [t]) (hd : (ti t).d = .slice e) :
    EvOK P o a w B E h (ev sp g h (.cap (xof x))) := by
  have ha' : c.args = #[x] := by rw [← ha]
  have hta' : c.argTypes = #[t] := by rw [← hta]
  have hT := (hti.get hd (by simp)).desc; rw [hd] at hT
  have ho' : ∀ r w', (Builtin.cap_ #[t] o.type #[a.eval x]).run P w = .ok r w' → (execOp a.eval o).run P w = .ok (.value r) w' := fun r w' hr => by
    unfold execOp
    simp only [ho, resolve, hc, ha', hta', List.map_toArray, List.map_cons, List.map_nil, Sem.run_bind, Sem.run_pure, Result.andThen_ok, invoke, builtin, hr]
  have run : ∀ {ad : Option Addr} {n cap : Nat}, (Builtin.cap_ #[t] o.type #[.slice ad n cap]).run P w = .ok (intv cap) w := by
    intro ad n cap; simp [Builtin.cap_, run_underlying hT, goInt, intv]
  have hx := rel_x hg x
  refine EvOK.ofV (onlyV_ok rfl) fun C R hev hC => gv' m ho' ?_
  simp only [ev] at hev
  split at hev
  · rename_i nil n sz c' full he
    rw [he] at hx
    simp only [rel] at hx
    split at hev
    · cases hev
      simp only [if_true] at hx
      rw [hx.1]
      exact ⟨_, run, by simp only [rel]; rfl⟩
    · split at hev
      · cases hev
        simp only [Bool.false_eq_true, if_false] at hx
        obtain ⟨ad, cap, vs, hx, _, h4, _⟩ := hx
        rw [hx]
        exact ⟨_, run, by simp only [rel]; rw [h4 trivial]⟩
      · cases hev
  · cases hev

set_option maxHeartbeats 4000000 in
theorem ev_ok (m : Mem B E h w) (hti : TIok P ti) (hsp : SpOK P sp) (hg : ∀ k, rel E (g k) (a.tmps.getD k undef)) (mu : List Nat) (o : Oper) : EvOK P o a w B E h (ev sp g h (compOp ti mu o)) := by
  obtain ⟨dst, op, ty, pos, af, gd⟩ := o
  generalize hmm : (match dst with | some d => mu.contains d | none => false) = mm
  cases op with
  | move x => exact EvOK.ofV (onlyV_ok rfl) fun C R hev hC => by cases hev; exact gives_same m rfl (rel_x hg x)
  | assign x => exact EvOK.ofV (onlyV_ok rfl) fun C R hev hC => by cases hev; exact gives_same m rfl (rel_x hg x)
  | pick c x y =>
    refine EvOK.ofV (onlyV_ok rfl) fun C R hev hC => ?_
    simp only [compOp, ev] at hev
    split at hev
    · rename_i t ht
      cases hev
      have hc := rel_x hg c
      rw [ht] at hc
      simp only [rel] at hc
      refine gives_same m (v := if t then a.eval x else a.eval y) ?_ ?_
      · unfold execOp; simp [hc, asBool]
      · cases t
        · exact rel_x hg y
        · exact rel_x hg x
    · cases hev
  | alloc e =>
    simp only [compOp]
    split
    · exact EvOK.bad
    · rename_i z hz hd
      exact fun _ => gp (s := Instr.alloc e true (.tuple #[])) rfl (alloc_ok m hti (fun h' => hd h') hz)
    · exact EvOK.bad
  | box e x =>
    simp only [compOp, ev]
    split
    · rename_i c hc
      exact fun _ => gp (s := Instr.box e (a.eval x)) rfl (box_ok m (rel_x hg x) hc)
    · trivial
  | build t parts =>
    have hov : isV (ev sp g h (compOp ti mu ⟨dst, .build t parts, ty, pos, af, gd⟩)) = true := by
      refine onlyV_ok ?_
      simp only [compOp]
      repeat' split
      all_goals rfl
    refine EvOK.ofV hov fun C R hev hC => gv m (s := Instr.build t (parts.map fun (i, x) => (i, a.eval x))) rfl ?_
    exact build_ok hti hg hev
  | buildSlice t n parts =>
    simp only [compOp, hmm]
    split
    · rename_i e hd
      split
      · exact EvOK.bad
      · rename_i hde
        split
        · rename_i z hz
          split
          · rename_i ps hps
            split
            · rename_i hn
              simp only [ev]
              split
              · rename_i l hl
                split
                · rename_i c hc
                  obtain ⟨v, w', h1, h2, h3⟩ := bsl_ok (P := P) m hti hg hd (fun h' => hde h') hz hps hn hl hc
                  split
                  · exact fun _ => gp (s := Instr.buildSlice t n (parts.map fun (i, x) => (i, a.eval x))) rfl ⟨v, w', h1, h3⟩
                  · exact fun _ => gp (s := Instr.buildSlice t n (parts.map fun (i, x) => (i, a.eval x))) rfl ⟨v, w', h1, h2⟩
                · trivial
              · trivial
            · exact EvOK.bad
          · exact EvOK.bad
        · exact EvOK.bad
    · exact EvOK.bad
  | load t x =>
    simp only [compOp]
    split
    · exact EvOK.bad
    · rename_i hd
      exact mk_load m hti hg rfl (fun h' => hd h')
  | store t x y =>
    simp only [compOp]
    split
    · exact EvOK.bad
    · rename_i hd
      split
      · exact EvOK.bad
      · rename_i hz
        exact mk_store m hti hg rfl (fun h' => hd h') hz
  | nilCheck x =>
    refine EvOK.ofV (onlyV_ok rfl) fun C R hev hC => ?_
    have hx := rel_x hg x
    simp only [compOp, ev] at hev
    split at hev
    · rename_i i e o' he
      cases hev
      rw [he] at hx
      refine gives_same m (v := a.eval x) ?_ hx
      simp only [rel] at hx
      obtain ⟨_, _, ⟨ad, hx⟩, _⟩ := hx
      unfold execOp; simp [hx]
    · rename_i c he
      cases hev
      rw [he] at hx
      refine gives_same m (v := a.eval x) ?_ hx
      simp only [rel] at hx
      obtain ⟨_, _, _, hx, _⟩ := hx
      unfold execOp; simp [hx]
    · rename_i f cap he
      cases hev
      rw [he] at hx
      refine gives_same m (v := a.eval x) ?_ hx
      simp only [rel] at hx
      obtain ⟨_, hx, _⟩ := hx
      unfold execOp; simp [hx]
    · cases hev
  | binOp op t x y ty' =>
    have other : op ≠ .eql → op ≠ .neq → EvOK P ⟨dst, .binOp op t x y ty', ty, pos, af, gd⟩ a w B E h (ev sp g h (.bin op (xof x) (xof y))) := fun h1 h2 =>
      EvOK.ofV (onlyV_ok rfl) fun C R hev hC => gv m (s := do eqGuard op t x y (a.eval x) (a.eval y); binOp op t (a.eval x) (a.eval y)) rfl (by
        obtain ⟨r, k1, k2, _⟩ := evBin_ok (P := P) (w := w) (T := t) (rel_x hg x) (rel_x hg y) hev hC
        refine ⟨r, ?_, k2⟩
        have hgd : (eqGuard op t x y (a.eval x) (a.eval y)).run P w = .ok () w := by cases op <;> first | rfl | exact absurd rfl h1 | exact absurd rfl h2
        simp only [Sem.run_bind, hgd, Result.andThen_ok, k1])
    cases op
    case eql =>
      simp only [compOp]
      split
      · rename_i k hk
        refine EvOK.ofV (onlyV_ok rfl) fun C R hev hC => gv m (s := do eqGuard .eql t x y (a.eval x) (a.eval y); binOp .eql t (a.eval x) (a.eval y)) rfl ?_
        exact evEq_ok (neq := false) hti hk (rel_x hg x) (rel_x hg y) hev
      · exact EvOK.bad
    case neq =>
      simp only [compOp]
      split
      · rename_i k hk
        refine EvOK.ofV (onlyV_ok rfl) fun C R hev hC => gv m (s := do eqGuard .neq t x y (a.eval x) (a.eval y); binOp .neq t (a.eval x) (a.eval y)) rfl ?_
        exact evEq_ok (neq := true) hti hk (rel_x hg x) (rel_x hg y) hev
      · exact EvOK.bad
    all_goals exact other (by simp) (by simp)
  | unOp op t x => exact EvOK.ofV (onlyV_ok rfl) fun C R hev hC => gv m (s := Op.unary op (a.eval x)) rfl (un_ok (rel_x hg x) hev)
  | convert s d x =>
    simp only [compOp, hmm]
    split
    · rename_i e hs hd
      split
      · rename_i he; exact mk_strb m hti hg rfl hs hd he
      · exact EvOK.bad
    · rename_i e hs hd
      split
      · rename_i he
        refine EvOK.ofV (show isV (evConv h .bstr (xv g (xof x))) = true from isV_evConv (fun hh => by cases hh)) fun C R hev hC => gv m (s := convert s d (a.eval x)) rfl ?_
        exact bstr_ok m hti hs hd he (rel_x hg x) hev hC
      · exact EvOK.bad
    · split
      · rename_i k hk; exact mk_conv m hti hg rfl hk
      · exact EvOK.bad
  | makeFunc fn first cap =>
    cases fn with
    | func f =>
      simp only [compOp]
      split
      · rename_i hfi
        refine EvOK.ofV (onlyV_ok rfl) fun C R hev hC => ?_
        cases hev
        have : first = #[] := by simpa using hfi
        subst this
        refine gives_same m (v := .func (.func f) #[] (cap.map a.eval)) ?_ ?_
        · unfold execOp; simp [Instr.makeFunc]
        · simp only [rel]
          exact ⟨_, rfl, by rw [Array.toList_map]; exact relL_xvs hg cap.toList⟩
      · exact EvOK.bad
    | _ => exact EvOK.bad
  | makeSlice t l c =>
    simp only [compOp]
    split
    · rename_i e hd
      split
      · exact EvOK.bad
      · rename_i hde
        split
        · rename_i z hz
          split
          · exact EvOK.bad
          · rename_i hn
            simp only [ev]
            split
            · rename_i l' c' hl hc
              intro hC
              simp only [holds] at hC
              have h1 := rel_x hg l; rw [hl] at h1
              have h2 := rel_x hg c; rw [hc] at h2
              simp only [rel] at h1 h2
              refine gp (s := Instr.makeSlice t (a.eval l) (a.eval c)) rfl ?_
              rw [h1, h2]
              have hk : zok (ekOf (ti e).d) z = true := by
                cases hzk : zok (ekOf (ti e).d) z
                · exact absurd (.inr (.inr hzk)) hn
                · rfl
              exact mksl_ok m hti hd (fun h' => hde h') hz hk (fun h' => hn (.inr (.inl h'))) hC.1 hC.2.1 hC.2.2
            · trivial
        · exact EvOK.bad
    · exact EvOK.bad
  | slice t x lo hi mx =>
    simp only [compOp]
    split
    · rename_i e hd
      split
      · exact EvOK.bad
      · rename_i hde
        refine EvOK.ofV (onlyV_ok rfl) fun C R hev hC => gv m (s := Instr.sliceAt t (a.eval x) (lo.map a.eval) (hi.map a.eval) (mx.map a.eval)) rfl ?_
        exact slcS_ok hti hg hd (fun h' => hde h') hev hC
    · rename_i n e hd
      split
      · exact EvOK.bad
      · rename_i hde
        refine EvOK.ofV (onlyV_ok rfl) fun C R hev hC => gv m (s := Instr.sliceAt t (a.eval x) (lo.map a.eval) (hi.map a.eval) (Option.map a.eval none)) rfl ?_
        exact slcA_ok m hti hg hd (fun h' => hde h') hev hC
      · exact EvOK.bad
    · rename_i hd
      split
      · refine EvOK.ofV (onlyV_ok rfl) fun C R hev hC => gv m (s := Instr.sliceAt t (a.eval x) (lo.map a.eval) (hi.map a.eval) (Option.map a.eval none)) rfl ?_
        exact slcT_ok hti hg hd hev hC
      · exact EvOK.bad
    · exact EvOK.bad
  | fieldAddr s x f =>
    simp only [compOp]
    split
    · rename_i offs hd
      split
      · rename_i off z hf
        split
        · exact EvOK.bad
        · rename_i hz
          refine EvOK.ofV (onlyV_ok rfl) fun C R hev hC => gv m (s := Instr.fieldAt s (a.eval x) f) rfl ?_
          exact fad_ok (sp := sp) (g := g) (h := h) hti hd hf hz (rel_x hg x) hev
      · exact EvOK.bad
    · exact EvOK.bad
  | indexAddr t x i =>
    simp only [compOp]
    split
    · rename_i e hd
      split
      · exact EvOK.bad
      · rename_i hde
        split
        · exact EvOK.bad
        · rename_i hz
          refine EvOK.ofV (onlyV_ok rfl) fun C R hev hC => gv m (s := Instr.indexAt t (a.eval x) (a.eval i)) rfl ?_
          exact iadS_ok (sp := sp) (g := g) (h := h) hti hd (fun h' => hde h') hz (rel_x hg x) (rel_x hg i) hev hC
    · rename_i n e hd
      split
      · exact EvOK.bad
      · rename_i hde
        split
        · exact EvOK.bad
        · rename_i hn
          refine EvOK.ofV (onlyV_ok rfl) fun C R hev hC => gv m (s := Instr.indexAt t (a.eval x) (a.eval i)) rfl ?_
          exact iadA_ok (sp := sp) (g := g) (h := h) hti hd (fun h' => hde h') hn (rel_x hg x) (rel_x hg i) hev hC
    · exact EvOK.bad
  | index t x i =>
    simp only [compOp]
    split
    · rename_i hd
      refine EvOK.ofV (onlyV_ok rfl) fun C R hev hC => gv m (s := Instr.index t (a.eval x) (a.eval i)) rfl ?_
      exact idx_ok (sp := sp) (g := g) (h := h) hti hd (rel_x hg x) (rel_x hg i) hev hC
    · exact EvOK.bad
  | extract x k => exact EvOK.ofV (onlyV_ok rfl) fun C R hev hC => gv m (s := Instr.extract (a.eval x) k) rfl (ext_ok (sp := sp) (g := g) (h := h) (rel_x hg x) hev)
  | makeInterface t x =>
    simp only [compOp]
    split
    · exact EvOK.bad
    · exact EvOK.bad
    · rename_i hd1 hd2
      refine EvOK.ofV (onlyV_ok rfl) fun C R hev hC => ?_
      cases hev
      refine gv m (s := Instr.makeInterface t (a.eval x)) rfl ⟨.iface t (a.eval x), ?_, by simp only [rel]; exact ⟨_, rfl, rel_x hg x⟩⟩
      have hT := (hti.get (T := t) rfl (fun h' => hd1 h')).desc
      cases hd : (ti t).d <;> rw [hd] at hT <;> simp only [Desc] at hT
      case iface => exact absurd hd hd2
      case other => exact absurd hd hd1
      case ptr => obtain ⟨_, hT⟩ := hT; simp [Instr.makeInterface, run_underlying hT]
      case struct => obtain ⟨_, hT, _⟩ := hT; simp [Instr.makeInterface, run_underlying hT]
      case func => obtain ⟨_, _, _, hT⟩ := hT; simp [Instr.makeInterface, run_underlying hT]
      case tuple => obtain ⟨_, hT⟩ := hT; simp [Instr.makeInterface, run_underlying hT]
      all_goals simp [Instr.makeInterface, run_underlying hT]
  | call c =>
    obtain ⟨callee, args, argTypes⟩ := c
    cases callee with
    | value f =>
      have key := fun C R => call_ok (o := ⟨dst, .call ⟨.value f, args, argTypes⟩, ty, pos, af, gd⟩) m hsp hg (c := ⟨.value f, args, argTypes⟩) (f := f) rfl rfl (C := C) (R := R)
      simp only [compOp, ev]
      cases hr : evCall sp h (xv g (xof f)) (xvs g (args.toList.map xof)) with
      | v C R => exact fun hC => (key C R).1 hr hC
      | e C R h' => exact fun hC => (key C R).2 h' hr hC
      | no => trivial
      | k C h' =>
        exfalso
        have hno : ∀ {F e as h0}, sfind sp F = some e → e.f as h0 ≠ .k C h' := fun {F e as h0} he hk => by
          have := (hsp F e he).1 as h0
          rw [hk] at this; exact this
        unfold evCall at hr
        split at hr
        · split at hr
          · rename_i he
            split at hr
            · exact hno he hr
            · split at hr
              · exact hno he hr
              · split at hr
                · split at hr <;> cases hr
                · cases hr
          · cases hr
        · cases hr
    | builtin b =>
      cases b
      case append =>
        simp only [compOp, hmm]
        split
        · rename_i x y t u ha hta
          split
          · rename_i e hd
            split
            · exact EvOK.bad
            · rename_i hde
              split
              · rename_i l hz hu
                split
                · exact EvOK.bad
                · rename_i hn
                  obtain ⟨T⟩ := AppT.mk' hti hd (fun h' => hde h') hu (fun h' => hn (.inl h')) (fun h' => hn (.inr h'))
                  exact mk_app m hti hg rfl rfl ha hta T
              · exact EvOK.bad
          · exact EvOK.bad
        · exact EvOK.bad
      case len =>
        simp only [compOp]
        split
        · rename_i x t ha hta
          have key := mk_len (sp := sp) (o := ⟨dst, .call ⟨.builtin .len, args, argTypes⟩, ty, pos, af, gd⟩) m hti hg (c := ⟨.builtin .len, args, argTypes⟩) rfl rfl ha hta
          split
          · rename_i e hd; exact key.2 _ hd
          · rename_i hd; exact key.1 hd
          · exact EvOK.bad
        · exact EvOK.bad
      case cap =>
        simp only [compOp]
        split
        · rename_i x t ha hta
          split
          · rename_i e hd
            exact mk_cap (sp := sp) (o := ⟨dst, .call ⟨.builtin .cap, args, argTypes⟩, ty, pos, af, gd⟩) m hti hg (c := ⟨.builtin .cap, args, argTypes⟩) rfl rfl ha hta hd
          · exact EvOK.bad
        · exact EvOK.bad
      case min =>
        simp only [compOp]
        split
        · rename_i x y ha
          have ha' : args = #[x, y] := by rw [← ha]
          subst ha'
          refine EvOK.ofV (onlyV_ok rfl) fun C R hev hC => ?_
          simp only [ev] at hev
          split at hev
          · rename_i i j hi hj
            cases hev
            have h1 := rel_x hg x; rw [hi] at h1
            have h2 := rel_x hg y; rw [hj] at h2
            simp only [rel, intv] at h1 h2
            refine gives_same m (v := .int .i64 (if j < i then j else i)) ?_ (by simp only [rel, intv])
            have := run_min_int2 (P := P) w argTypes ty .i64 .i64 i j
            unfold execOp
            simp only [resolve, List.map_toArray, List.map_cons, List.map_nil, h1, h2, Sem.run_bind, Sem.run_pure, Result.andThen_ok, invoke, builtin, this]
          · cases hev
        · exact EvOK.bad
      all_goals exact EvOK.bad
    | invoke recv name => exact EvOK.bad
  | _ => exact EvOK.bad

end
end Go.Abs

namespace Go.Abs

/-! ### An operation depends on the slots that it looks at -/
theorem xv_congr {g g' : Nat → AV} {x : X} (h : ∀ n ∈ xslots [x], g n = g' n) : xv g x = xv g' x := by
  cases x with
  | t n => exact h n (by simp [xslots])
  | c A => rfl
theorem mem_xslots_cons {x : X} {xs : List X} {n : Nat} : n ∈ xslots (x :: xs) ↔ n ∈ xslots [x] ∨ n ∈ xslots xs := by
  cases x <;> simp [xslots]
theorem xvs_congr {g g' : Nat → AV} : ∀ {xs : List X}, (∀ n ∈ xslots xs, g n = g' n) → xvs g xs = xvs g' xs
  | [], _ => rfl
  | x :: xs, h => by
    simp only [xvs]
    rw [xv_congr (x := x) fun n hn => h n (mem_xslots_cons.2 (.inl hn)), xvs_congr fun n hn => h n (mem_xslots_cons.2 (.inr hn))]
theorem xi_congr {g g' : Nat → AV} {x : Option X} (h : ∀ n ∈ oslots x, g n = g' n) : xi g x = xi g' x := by
  cases x with
  | none => rfl
  | some x =>
    cases x with
    | t n => simp only [xi, xv]; rw [h n (by simp [oslots])]
    | c A => rfl
theorem lay_congr {g g' : Nat → AV} : ∀ {ps : List (Nat × Nat × X)} {z : List AV}, (∀ n ∈ xslots (ps.map (·.2.2)), g n = g' n) → lay g z ps = lay g' z ps
  | [], _, _ => rfl
  | (off, size, x) :: ps, z, h => by
    simp only [lay]
    rw [xv_congr (x := x) fun n hn => h n (by simp only [List.map_cons]; exact mem_xslots_cons.2 (.inl hn))]
    split
    · split
      · split
        · exact lay_congr fun n hn => h n (by simp only [List.map_cons]; exact mem_xslots_cons.2 (.inr hn))
        · rfl
      · rfl
    · rfl

theorem ev_congr {sp : Sp} {g g' : Nat → AV} {h : List AO} {o : IOp} (hg : ∀ n ∈ looks o, g n = g' n) : ev sp g h o = ev sp g' h o := by
  have one : ∀ {x : X} {xs : List X}, (∀ n ∈ xslots xs, g n = g' n) → x ∈ xs → xv g x = xv g' x := fun {x xs} h hx => by
    refine xv_congr fun n hn => h n ?_
    clear h
    induction xs with
    | nil => cases hx
    | cons y ys ih =>
      rcases List.mem_cons.1 hx with rfl | hx
      · exact mem_xslots_cons.2 (.inl hn)
      · exact mem_xslots_cons.2 (.inr (ih hx))
  cases o with
  | mov x => simp only [ev, one (x := x) hg (by simp)]
  | pick c a b => simp only [ev, one (x := c) hg (by simp), one (x := a) hg (by simp), one (x := b) hg (by simp)]
  | alloc z => rfl
  | box x => simp only [ev, one (x := x) hg (by simp)]
  | build z ps => simp only [ev, lay_congr (z := z) (ps := ps) hg]
  | bsl m k sz n z ps => simp only [ev, lay_congr (z := lrep n z) (ps := ps) hg]
  | load n x => cases n <;> simp only [ev, one (x := x) hg (by simp)]
  | store n x v => cases n <;> simp only [ev, one (x := x) hg (by simp), one (x := v) hg (by simp)]
  | nilck x => simp only [ev, one (x := x) hg (by simp)]
  | bin op x y => simp only [ev, one (x := x) hg (by simp), one (x := y) hg (by simp)]
  | eq n k x y => simp only [ev, one (x := x) hg (by simp), one (x := y) hg (by simp)]
  | un op x => simp only [ev, one (x := x) hg (by simp)]
  | conv k x => simp only [ev, one (x := x) hg (by simp)]
  | mkf f cap => simp only [ev, xvs_congr hg]
  | mksl k sz b z x y => simp only [ev, one (x := x) hg (by simp), one (x := y) hg (by simp)]
  | slcS sz x lo hi mx =>
    simp only [looks, List.mem_append] at hg
    simp only [ev, evSlice, xv_congr (x := x) fun n hn => hg n (by simp [hn]), xi_congr (x := lo) fun n hn => hg n (by simp [hn]), xi_congr (x := hi) fun n hn => hg n (by simp [hn]), xi_congr (x := mx) fun n hn => hg n (by simp [hn])]
  | slcA k sz x lo hi =>
    simp only [looks, List.mem_append] at hg
    simp only [ev, xv_congr (x := x) fun n hn => hg n (by simp [hn]), xi_congr (x := lo) fun n hn => hg n (by simp [hn]), xi_congr (x := hi) fun n hn => hg n (by simp [hn])]
  | slcT x lo hi =>
    simp only [looks, List.mem_append] at hg
    simp only [ev, xv_congr (x := x) fun n hn => hg n (by simp [hn]), xi_congr (x := lo) fun n hn => hg n (by simp [hn]), xi_congr (x := hi) fun n hn => hg n (by simp [hn])]
  | fad off x => simp only [ev, one (x := x) hg (by simp)]
  | iadA k sz x y => simp only [ev, one (x := x) hg (by simp), one (x := y) hg (by simp)]
  | iadS sz x y => simp only [ev, one (x := x) hg (by simp), one (x := y) hg (by simp)]
  | idx x y => simp only [ev, one (x := x) hg (by simp), one (x := y) hg (by simp)]
  | ext x k => simp only [ev, one (x := x) hg (by simp)]
  | call f as =>
    simp only [looks] at hg
    simp only [ev, xv_congr (x := f) fun n hn => hg n (mem_xslots_cons.2 (.inl hn)), xvs_congr (xs := as) fun n hn => hg n (mem_xslots_cons.2 (.inr hn))]
  | app m sz b x y => simp only [ev, one (x := x) hg (by simp), one (x := y) hg (by simp)]
  | len t x => cases t <;> simp only [ev, one (x := x) hg (by simp)]
  | cap x => simp only [ev, one (x := x) hg (by simp)]
  | mn x y => simp only [ev, one (x := x) hg (by simp), one (x := y) hg (by simp)]
  | mki t x => simp only [ev, one (x := x) hg (by simp)]
  | bad => rfl

def vOnly : ER → ER
  | .v C A => .v C A
  | _ => .no
/-- Class 0: nothing of the heap. -/
theorem kls0 {pures : List Nat} {sp : Sp} {g : Nat → AV} {h h' : List AO} {o : IOp} (hk : kls pures o = 0) : vOnly (ev (sp0 sp) g h o) = vOnly (ev (sp0 sp) g h' o) := by
  cases o
  case call f as =>
    simp only [ev]
    cases h1 : evCall (sp0 sp) h (xv g f) (xvs g as) with
    | v C A => rw [s0_call h1]
    | e C A h2 =>
      cases h3 : evCall (sp0 sp) h' (xv g f) (xvs g as) with
      | v C A => rw [s0_call h3] at h1; cases h1
      | _ => rfl
    | k C h2 =>
      cases h3 : evCall (sp0 sp) h' (xv g f) (xvs g as) with
      | v C A => rw [s0_call h3] at h1; cases h1
      | _ => rfl
    | no =>
      cases h3 : evCall (sp0 sp) h' (xv g f) (xvs g as) with
      | v C A => rw [s0_call h3] at h1; cases h1
      | _ => rfl
  all_goals (simp only [kls] at hk) <;> try contradiction
  case bsl m k sz n z ps =>
    cases m
    · simp only [ev]
    · simp at hk
  case conv k x =>
    cases k <;> try (simp only [ev, evConv]; done)
    case strb m =>
      cases m
      · simp only [ev, evConv]; cases xv g x <;> rfl
      · simp at hk
    all_goals first | (simp at hk; done) | (simp only [ev, evConv]; cases xv g x <;> rfl)
  case app m _ _ _ _ => cases m <;> simp at hk
  case len t x => cases t <;> simp only [ev]
  all_goals first | rfl | simp only [ev]

/-! ### A step -/
def gd (g : Nat → AV) : Option (Nat × Bool) → Option Bool
  | none => some true
  | some (d, b) => match g d with
    | .bool p => some (p == b)
    | .undef => some false
    | _ => none
def upd (g : Nat → AV) : Option Nat → AV → Nat → AV
  | none, _ => g
  | some d, A => fun k => if k = d then A else g k
def evc (sp : Sp) (g : Nat → AV) (h : List AO) (co : CO) : ER :=
  match Nat.beq co.c 2 with
  | true => ev sp g h co.o
  | false => vOnly (ev (sp0 sp) g h co.o)
open Classical in
noncomputable def astep (sp : Sp) (co : CO) (st : (Nat → AV) × List AO) : Option ((Nat → AV) × List AO) :=
  match gd st.1 co.g with
  | some true => match evc sp st.1 st.2 co with
    | .v C A => if holds C then some (upd st.1 co.d A, st.2) else none
    | .e C A h' => if holds C then some (upd st.1 co.d A, h') else none
    | .k C h' => if holds C then some (upd st.1 co.d .undef, h') else none
    | .no => none
  | some false => some (upd st.1 co.d .undef, st.2)
  | none => none

theorem evc_v {sp : Sp} {g : Nat → AV} {h : List AO} {co : CO} (hc : co.c ≠ 2) : evc sp g h co = vOnly (ev (sp0 sp) g h co.o) := by
  unfold evc; split
  · rename_i e; exact absurd (Nat.eq_of_beq_eq_true e) hc
  · rfl

theorem evc_congr {sp : Sp} {g g' : Nat → AV} {h : List AO} {co : CO} (hg : ∀ n ∈ looks co.o, g n = g' n) : evc sp g h co = evc sp g' h co := by
  unfold evc; rw [ev_congr (sp := sp) hg, ev_congr (sp := sp0 sp) hg]
theorem gd_congr {g g' : Nat → AV} {co : CO} (hg : ∀ n ∈ COlooks co, g n = g' n) : gd g co.g = gd g' co.g := by
  obtain ⟨d, o, gg, c⟩ := co
  cases gg with
  | none => rfl
  | some x => obtain ⟨k, b⟩ := x; simp only [gd]; rw [hg k (by simp [COlooks])]
theorem looks_sub {co : CO} {n : Nat} (h : n ∈ looks co.o) : n ∈ COlooks co := by unfold COlooks; exact List.mem_append_right _ h

open Classical in
/-- The step, as what it changes. -/
noncomputable def adel (sp : Sp) (co : CO) (g : Nat → AV) (h : List AO) : Option (AV × List AO) :=
  match gd g co.g with
  | some true => match evc sp g h co with
    | .v C A => if holds C then some (A, h) else none
    | .e C A h' => if holds C then some (A, h') else none
    | .k C h' => if holds C then some (.undef, h') else none
    | .no => none
  | some false => some (.undef, h)
  | none => none
theorem astep_eq (sp : Sp) (co : CO) (g : Nat → AV) (h : List AO) : astep sp co (g, h) = (adel sp co g h).map fun r => (upd g co.d r.1, r.2) := by
  unfold astep adel
  simp only
  split
  · split <;> (try split) <;> simp
  · simp
  · simp
theorem adel_congr {sp : Sp} {co : CO} {g g' : Nat → AV} {h : List AO} (hg : ∀ n ∈ COlooks co, g n = g' n) : adel sp co g h = adel sp co g' h := by
  unfold adel
  rw [gd_congr hg, evc_congr fun n hn => hg n (looks_sub hn)]
/-- What reads at most leaves the heap. -/
theorem adel_heap {sp : Sp} {co : CO} {g : Nat → AV} {h : List AO} (hc : co.c ≠ 2) {r : AV × List AO} (hr : adel sp co g h = some r) : r.2 = h := by
  unfold adel at hr
  rw [evc_v hc] at hr
  split at hr
  · split at hr <;> rename_i he
    · split at hr <;> cases hr; rfl
    · unfold vOnly at he; split at he <;> cases he
    · unfold vOnly at he; split at he <;> cases he
    · cases hr
  · cases hr; rfl
  · cases hr
/-- What has nothing to do with the heap does the same in another. -/
theorem adel_zero {pures : List Nat} {sp : Sp} {co : CO} {g : Nat → AV} {h h' : List AO} (hc : co.c = 0) (hk : kls pures co.o = 0) {A : AV} {h1 : List AO} (hr : adel sp co g h = some (A, h1)) : adel sp co g h' = some (A, h') := by
  unfold adel at hr ⊢
  rw [evc_v (by omega)] at hr ⊢
  rw [kls0 (h' := h') hk] at hr
  split at hr
  · split at hr <;> rename_i he
    · split at hr
      · rename_i hh; cases hr; simp [he, hh]
      · cases hr
    · unfold vOnly at he; split at he <;> cases he
    · unfold vOnly at he; split at he <;> cases he
    · cases hr
  · cases hr; rfl
  · cases hr

theorem upd_look {g : Nat → AV} {d : Option Nat} {A : AV} {co : CO} (h : (match d with | some d => !(COlooks co).contains d | none => true) = true) : ∀ n ∈ COlooks co, upd g d A n = g n := by
  intro n hn
  cases d with
  | none => rfl
  | some d =>
    simp only [upd]
    rw [if_neg]
    intro e; subst e
    simp at h; exact h hn

/-- Two operations whose slots are apart, and that make nothing of one another's heap: the one that stood behind may go first. -/
theorem commute_of {sp : Sp} {a b : CO} (hab : slotsApart a b = true) {st s2 : (Nat → AV) × List AO}
    (hkey : ∀ A ha1 Bv hb1, adel sp a st.1 st.2 = some (A, ha1) → adel sp b st.1 ha1 = some (Bv, hb1) → ∃ hb2, adel sp b st.1 st.2 = some (Bv, hb2) ∧ adel sp a st.1 hb2 = some (A, hb1))
    (h : (astep sp a st).bind (astep sp b) = some s2) : (astep sp b st).bind (astep sp a) = some s2 := by
  obtain ⟨g, h0⟩ := st
  unfold slotsApart at hab
  simp only [Bool.and_eq_true] at hab
  obtain ⟨h1, h2⟩ := hab
  rw [astep_eq] at h
  cases hra : adel sp a g h0 with
  | none => rw [hra] at h; simp at h
  | some ra =>
    obtain ⟨A, ha1⟩ := ra
    rw [hra] at h
    simp only [Option.map_some, Option.bind_some] at h
    rw [astep_eq] at h
    have hlb : ∀ n ∈ COlooks b, upd g a.d A n = g n := upd_look (by
      cases hd : a.d with
      | none => rfl
      | some d => rw [hd] at h1; simp only [Bool.and_eq_true] at h1; exact h1.1)
    rw [adel_congr hlb] at h
    cases hrb : adel sp b g ha1 with
    | none => rw [hrb] at h; simp at h
    | some rb =>
      obtain ⟨Bv, hb1⟩ := rb
      rw [hrb] at h
      simp only [Option.map_some, Option.some.injEq] at h
      have hla : ∀ n ∈ COlooks a, upd g b.d Bv n = g n := upd_look h2
      have hup : upd (upd g b.d Bv) a.d A = upd (upd g a.d A) b.d Bv := by
        funext k
        cases hda : a.d with
        | none => rfl
        | some x =>
          cases hdb : b.d with
          | none => rfl
          | some y =>
            rw [hda, hdb] at h1
            simp only [Bool.and_eq_true, bne_iff_ne, ne_eq, Option.some.injEq] at h1
            simp only [upd]
            by_cases e1 : k = x
            · subst e1; rw [if_pos rfl, if_neg (fun e => h1.2 e.symm), if_pos rfl]
            · rw [if_neg e1, if_neg e1]
      obtain ⟨hb2, k1, k2⟩ := hkey A ha1 Bv hb1 hra hrb
      rw [astep_eq, k1]
      simp only [Option.map_some, Option.bind_some]
      rw [astep_eq, adel_congr hla, k2]
      simp only [Option.map_some, Option.some.injEq]
      rw [hup]; exact h

theorem commute {pures : List Nat} {sp : Sp} {a b : CO} (hab : apart a b = true) (ha : a.c ≠ 2 → a.c = kls pures a.o) (hb : b.c ≠ 2 → b.c = kls pures b.o) {st s2 : (Nat → AV) × List AO}
    (h : (astep sp a st).bind (astep sp b) = some s2) : (astep sp b st).bind (astep sp a) = some s2 := by
  unfold apart at hab
  obtain ⟨hs, h3⟩ := (Bool.and_eq_true _ _).mp hab
  refine commute_of hs (fun A ha1 Bv hb1 hra hrb => ?_) h
  rcases (Bool.or_eq_true _ _).mp h3 with h3 | h3
  · rcases (Bool.or_eq_true _ _).mp h3 with h3 | h3
    · have h0a : a.c = 0 := by simpa using h3
      have e := adel_heap (by omega) hra
      simp only at e; subst e
      exact ⟨hb1, hrb, adel_zero h0a (by rw [← ha (by omega)]; exact h0a) hra⟩
    · have h0b : b.c = 0 := by simpa using h3
      have e := adel_heap (by omega) hrb
      simp only at e; subst e
      exact ⟨_, adel_zero h0b (by rw [← hb (by omega)]; exact h0b) hrb, hra⟩
  · simp only [Bool.and_eq_true, beq_iff_eq] at h3
    have e := adel_heap (by omega) hra
    have e' := adel_heap (by omega) hrb
    simp only at e e'; subst e; subst e'
    exact ⟨_, hrb, hra⟩

/-! ### A load and a store of two objects -/
/-- The load is of one object, the store into another (or the load is of what nobody writes). -/
def objOf : AV → Option Nat
  | .ptr i _ _ => some i
  | .ms _ i _ _ _ _ => some i
  | _ => none
def Dis (A Bv : AV) : Prop := (∃ i e o j, A = .ptr i e o ∧ objOf Bv = some j ∧ i ≠ j) ∨ ∃ c, A = .rop c
theorem rslot_eq {o : IOp} {p : Nat} (h : rslot o = some p) : ∃ n, o = .load n (.t p) := by
  unfold rslot at h; split at h <;> cases h; exact ⟨_, rfl⟩
theorem wslot_eq {o : IOp} {q : Nat} (h : wslot o = some q) : (∃ n x, o = .store n (.t q) x) ∨ ∃ sz b y, o = .app true sz b (.t q) y := by
  unfold wslot at h; split at h <;> cases h
  · exact .inl ⟨_, _, rfl⟩
  · exact .inr ⟨_, _, _, rfl⟩
theorem wslot_looks {co : CO} {q : Nat} (h : wslot co.o = some q) : q ∈ COlooks co := by
  unfold COlooks
  rcases wslot_eq h with ⟨n, x, e⟩ | ⟨sz, b, y, e⟩ <;> rw [e] <;> exact List.mem_append_right _ (by simp [looks, xslots])
theorem rslot_looks {co : CO} {q : Nat} (h : rslot co.o = some q) : q ∈ COlooks co := by
  unfold COlooks
  obtain ⟨n, e⟩ := rslot_eq h
  rw [e]; exact List.mem_append_right _ (by simp [looks, xslots])
theorem load_other {sp : Sp} {a : CO} {n : Option Nat} {p : Nat} (hl : a.o = .load n (.t p)) (hc : a.c ≠ 2) {g : Nat → AV} {h h' : List AO} (hh : (∃ i e o, g p = .ptr i e o ∧ hget h i = hget h' i) ∨ ∃ c, g p = .rop c) {A : AV} {h1 : List AO} (hr : adel sp a g h = some (A, h1)) :
    adel sp a g h' = some (A, h') := by
  have e : ev (sp0 sp) g h a.o = ev (sp0 sp) g h' a.o := by
    rw [hl]
    rcases hh with ⟨i, e, o, h1, h2⟩ | ⟨c, h1⟩ <;> cases n <;> simp only [ev, xv, h1]
    · rw [h2]
    · rw [h2]
  have e0 := adel_heap hc hr
  simp only at e0; subst e0
  unfold adel at hr ⊢
  rw [evc_v hc] at hr ⊢
  rw [e] at hr
  split at hr
  · split at hr <;> rename_i he
    · split at hr
      · rename_i hh; cases hr; simp [he, hh]
      · cases hr
    · unfold vOnly at he; split at he <;> cases he
    · unfold vOnly at he; split at he <;> cases he
    · cases hr
  · cases hr; rfl
  · cases hr
theorem hget_hset {h : List AO} {i j : Nat} {v : AO} (hij : i ≠ j) : hget (hset h j v) i = hget h i := by
  rw [hget_eq, hget_eq, hset_eq, List.getElem?_set_ne (Ne.symm hij)]
theorem write_other {sp : Sp} {b : CO} {q : Nat} (hl : wslot b.o = some q) {g : Nat → AV} {h h1 : List AO} {j : Nat} (hq : objOf (g q) = some j) {A : AV} (hr : adel sp b g h = some (A, h1)) {i : Nat} (hij : i ≠ j) : hget h1 i = hget h i := by
  have hev : ∀ {sp : Sp} {r : ER}, ev sp g h b.o = r → (∀ C A h', r = .e C A h' → hget h' i = hget h i) ∧ (∀ C h', r = .k C h' → hget h' i = hget h i) := fun {sp r} he => by
    subst he
    rcases wslot_eq hl with ⟨n, x, e⟩ | ⟨sz, by_, y, e⟩ <;> rw [e] <;> unfold objOf at hq <;> split at hq <;> cases hq <;> rename_i hgq
    · refine ⟨fun C A h' he => ?_, fun C h' he => ?_⟩
      · cases n <;> simp only [ev, xv, hgq] at he <;> (repeat' split at he) <;> cases he
      · cases n <;> simp only [ev, xv, hgq] at he <;> (repeat' split at he) <;> first | (cases he; exact hget_hset hij) | (cases he; injections; subst_vars; exact hget_hset hij) | cases he
    · refine ⟨fun C A h' he => ?_, fun C h' he => ?_⟩ <;> cases n <;> simp only [ev, xv, hgq] at he <;> cases he
    · refine ⟨fun C A h' he => ?_, fun C h' he => ?_⟩ <;> simp only [ev, xv, hgq, evApp] at he <;> split at he <;> cases he
    · refine ⟨fun C A h' he => ?_, fun C h' he => ?_⟩
      · simp only [ev, xv, hgq, evApp, appMs] at he
        (repeat' split at he) <;> first | (cases he; exact hget_hset hij) | cases he
      · simp only [ev, xv, hgq, evApp, appMs] at he
        (repeat' split at he) <;> cases he
  unfold adel at hr
  unfold evc at hr
  split at hr
  · split at hr <;> rename_i he
    · split at hr <;> cases hr; rfl
    · split at hr <;> cases hr
      split at he
      · exact (hev he).1 _ _ _ rfl
      · unfold vOnly at he; split at he <;> cases he
    · split at hr <;> cases hr
      split at he
      · exact (hev he).2 _ _ rfl
      · unfold vOnly at he; split at he <;> cases he
    · cases hr
  · cases hr; rfl
  · cases hr

theorem commute_ls {sp : Sp} {a b : CO} (hab : slotsApart a b = true) {p q : Nat} (ha : rslot a.o = some p) (hc : a.c ≠ 2) (hb : wslot b.o = some q) {st s2 : (Nat → AV) × List AO} (hd : Dis (st.1 p) (st.1 q))
    (h : (astep sp a st).bind (astep sp b) = some s2) : (astep sp b st).bind (astep sp a) = some s2 := by
  obtain ⟨n, ha⟩ := rslot_eq ha
  refine commute_of hab (fun A ha1 Bv hb1 hra hrb => ?_) h
  have e := adel_heap hc hra
  simp only at e; subst e
  refine ⟨hb1, hrb, load_other ha hc ?_ hra⟩
  rcases hd with ⟨i, e, o, j, h1, h2, h3⟩ | ⟨c, h1⟩
  · exact .inl ⟨i, e, o, h1, (write_other hb h2 hrb h3).symm⟩
  · exact .inr ⟨c, h1⟩
theorem commute_sl {sp : Sp} {a b : CO} (hab : slotsApart a b = true) {p q : Nat} (ha : wslot a.o = some q) (hb : rslot b.o = some p) (hc : b.c ≠ 2) {st s2 : (Nat → AV) × List AO} (hd : Dis (st.1 p) (st.1 q))
    (h : (astep sp a st).bind (astep sp b) = some s2) : (astep sp b st).bind (astep sp a) = some s2 := by
  obtain ⟨n, hb⟩ := rslot_eq hb
  refine commute_of hab (fun A ha1 Bv hb1 hra hrb => ?_) h
  have e := adel_heap hc hrb
  simp only at e; subst e
  refine ⟨st.2, load_other hb hc ?_ hrb, hra⟩
  rcases hd with ⟨i, e, o, j, h1, h2, h3⟩ | ⟨c, h1⟩
  · exact .inl ⟨i, e, o, h1, write_other ha h2 hra h3⟩
  · exact .inr ⟨c, h1⟩

/-! ### Several steps -/
noncomputable def afold (sp : Sp) (cs : List CO) : List Nat → (Nat → AV) × List AO → Option ((Nat → AV) × List AO)
  | [], st => some st
  | i :: l, st => match cs[i]? with
    | some co => (astep sp co st).bind (afold sp cs l)
    | none => afold sp cs l st

theorem afold_app (sp : Sp) (cs : List CO) : ∀ (l m : List Nat) (st), afold sp cs (l ++ m) st = (afold sp cs l st).bind (afold sp cs m)
  | [], m, st => by simp [afold]
  | i :: l, m, st => by
    simp only [List.cons_append, afold]
    split
    · cases astep sp _ st with
      | none => rfl
      | some s => simp only [Option.bind_some]; exact afold_app sp cs l m s
    · exact afold_app sp cs l m st

theorem astep_other {sp : Sp} {co : CO} {st s2 : (Nat → AV) × List AO} (h : astep sp co st = some s2) {p : Nat} (hp : co.d ≠ some p) : s2.1 p = st.1 p := by
  obtain ⟨g, h0⟩ := st
  rw [astep_eq] at h
  cases hr : adel sp co g h0 with
  | none => rw [hr] at h; cases h
  | some r =>
    rw [hr] at h
    simp only [Option.map_some, Option.some.injEq] at h
    subst h
    cases hd : co.d with
    | none => rfl
    | some d =>
      simp only [upd]
      rw [if_neg]
      intro e; subst e; exact hp hd
theorem afold_other {sp : Sp} {cs : List CO} {p : Nat} : ∀ {l : List Nat} {st s2 : (Nat → AV) × List AO}, afold sp cs l st = some s2 → (∀ k ∈ l, ∀ co, cs[k]? = some co → co.d ≠ some p) → s2.1 p = st.1 p
  | [], st, s2, h, _ => by simp only [afold, Option.some.injEq] at h; rw [h]
  | i :: l, st, s2, h, hp => by
    simp only [afold] at h
    cases hi : cs[i]? with
    | none => rw [hi] at h; exact afold_other h fun k hk => hp k (List.mem_cons_of_mem _ hk)
    | some co =>
      rw [hi] at h
      simp only at h
      cases hs : astep sp co st with
      | none => rw [hs] at h; cases h
      | some s1 =>
        rw [hs] at h
        rw [afold_other (by simpa using h) fun k hk => hp k (List.mem_cons_of_mem _ hk)]
        exact astep_other hs (hp i (by simp) co hi)

theorem writersOK_ok {cs : List CO} {p k : Nat} (h : writersOK cs p k = true) {w : Nat} {co : CO} (hw : cs[w]? = some co) (hd : co.d = some p) : w < k := by
  unfold writersOK at h
  have := List.all_eq_true.1 h w (List.mem_range.2 (List.getElem?_eq_some_iff.1 hw).1)
  rw [hw] at this
  simp only [Bool.or_eq_true, bne_iff_ne, ne_eq, decide_eq_true_eq] at this
  rcases this with h | h
  · exact absurd hd h
  · exact h

theorem slotsApart_d {a b : CO} (h : slotsApart a b = true) : (∀ d, a.d = some d → d ∉ COlooks b) ∧ (∀ d, b.d = some d → d ∉ COlooks a) := by
  unfold slotsApart at h
  simp only [Bool.and_eq_true] at h
  constructor
  · intro d hd; rw [hd] at h; simp only [Bool.and_eq_true, Bool.not_eq_true'] at h
    intro hm; have := h.1.1; simp [hm] at this
  · intro d hd; rw [hd] at h; simp only [Bool.not_eq_true'] at h
    intro hm; have := h.2; simp [hm] at this

theorem afold_first {pures : List Nat} {sp : Sp} {cs : List CO} {cf : List (Nat × Nat)} {i : Nat} {b : CO} (hi : cs[i]? = some b) (hcl : ∀ co ∈ cs, co.c ≠ 2 → co.c = kls pures co.o) {s2 : (Nat → AV) × List AO} (hdis : ∀ x ∈ cf, Dis (s2.1 x.1) (s2.1 x.2)) :
    ∀ (l : List Nat) {m : List Nat} {st : (Nat → AV) × List AO}, (∀ j ∈ l, j < i) → (∀ k ∈ m, i < k) → l.Pairwise (· < ·) →
    (∀ j ∈ l, ∀ a, cs[j]? = some a → apart a b = true ∨ ∃ x ∈ cf, confOf cs j i a b = some x) → afold sp cs (l ++ i :: m) st = some s2 → afold sp cs (i :: (l ++ m)) st = some s2
  | [], m, st, _, _, _, _, h => h
  | j :: l, m, st, hlt, hgt, hpw, hap, h => by
    have hji : j < i := hlt j (by simp)
    have hjl : ∀ k ∈ l, j < k := fun k hk => List.rel_of_pairwise_cons hpw hk
    have hpw' := (List.pairwise_cons.1 hpw).2
    simp only [List.cons_append, afold] at h
    cases hj : cs[j]? with
    | none =>
      rw [hj] at h
      have := afold_first hi hcl hdis l (fun j' hj' => hlt j' (List.mem_cons_of_mem _ hj')) hgt hpw' (fun j' hj' => hap j' (List.mem_cons_of_mem _ hj')) h
      simp only [List.cons_append, afold, hi, hj] at this ⊢
      exact this
    | some a =>
      rw [hj] at h
      simp only at h
      cases hs : astep sp a st with
      | none => rw [hs] at h; simp at h
      | some s1 =>
        rw [hs] at h
        simp only [Option.bind_some] at h
        have := afold_first hi hcl hdis l (fun j' hj' => hlt j' (List.mem_cons_of_mem _ hj')) hgt hpw' (fun j' hj' => hap j' (List.mem_cons_of_mem _ hj')) h
        simp only [afold, hi] at this
        simp only [List.cons_append, afold, hi, hj]
        cases hb : astep sp b s1 with
        | none => rw [hb] at this; simp at this
        | some s3 =>
          rw [hb] at this
          simp only [Option.bind_some] at this
          have hbind : (astep sp a st).bind (astep sp b) = some s3 := by rw [hs]; simp only [Option.bind_some]; exact hb
          -- a slot that is not written from here on
          have late : ∀ p, a.d ≠ some p → b.d ≠ some p → (∀ k ∈ l ++ m, ∀ co, cs[k]? = some co → co.d ≠ some p) → s2.1 p = st.1 p := fun p h1 h2 h3 => by
            rw [afold_other this h3, astep_other hb h2, astep_other hs h1]
          have hc : (astep sp b st).bind (astep sp a) = some s3 := by
            rcases hap j (by simp) a hj with h1 | ⟨x, hx, hcf⟩
            · exact commute h1 (hcl a (List.mem_of_getElem? hj)) (hcl b (List.mem_of_getElem? hi)) hbind
            · have hd := hdis x hx
              have lw : ∀ p, p ∈ COlooks b → ∀ k ∈ l, ∀ co, cs[k]? = some co → co.d ≠ some p := fun p hp k hk co hco hd' => by
                have hsl : slotsApart co b = true := by
                  rcases hap k (List.mem_cons_of_mem _ hk) co hco with h1 | ⟨y, _, hy⟩
                  · unfold apart at h1; exact ((Bool.and_eq_true _ _).mp h1).1
                  · unfold confOf at hy
                    split at hy
                    · split at hy
                      · rename_i hh; simp only [Bool.and_eq_true] at hh; exact hh.1.1.1
                      · cases hy
                    · split at hy
                      · split at hy
                        · rename_i hh; simp only [Bool.and_eq_true] at hh; exact hh.1.1.1
                        · cases hy
                      · cases hy
                exact (slotsApart_d hsl).1 p hd' hp
              unfold confOf at hcf
              split at hcf
              · rename_i p q ho1 ho2
                split at hcf
                · rename_i hh
                  cases hcf
                  simp only [Bool.and_eq_true, bne_iff_ne, ne_eq] at hh
                  obtain ⟨⟨⟨g1, g2⟩, g3⟩, g4⟩ := hh
                  have ep := late p (fun e => Nat.lt_irrefl _ (writersOK_ok g3 hj e)) (fun e => (slotsApart_d g1).2 p e (rslot_looks ho1)) (fun k hk co hco e => by
                    have := writersOK_ok g3 hco e
                    rcases List.mem_append.1 hk with hk | hk
                    · have := hjl k hk; omega
                    · have := hgt k hk; omega)
                  have eq := late q (fun e => (slotsApart_d g1).1 q e (wslot_looks ho2)) (fun e => Nat.lt_irrefl _ (writersOK_ok g4 hi e)) (fun k hk co hco e => by
                    rcases List.mem_append.1 hk with hk | hk
                    · exact lw q (wslot_looks ho2) k hk co hco e
                    · have := writersOK_ok g4 hco e; have := hgt k hk; omega)
                  simp only at hd
                  rw [ep, eq] at hd
                  exact commute_ls g1 ho1 g2 ho2 hd hbind
                · cases hcf
              · split at hcf
                · rename_i q p ho1 ho2
                  split at hcf
                  · rename_i hh
                    cases hcf
                    simp only [Bool.and_eq_true, bne_iff_ne, ne_eq] at hh
                    obtain ⟨⟨⟨g1, g2⟩, g3⟩, g4⟩ := hh
                    have eq := late q (fun e => Nat.lt_irrefl _ (writersOK_ok g4 hj e)) (fun e => (slotsApart_d g1).2 q e (wslot_looks ho1)) (fun k hk co hco e => by
                      have := writersOK_ok g4 hco e
                      rcases List.mem_append.1 hk with hk | hk
                      · have := hjl k hk; omega
                      · have := hgt k hk; omega)
                    have ep := late p (fun e => (slotsApart_d g1).1 p e (rslot_looks ho2)) (fun e => Nat.lt_irrefl _ (writersOK_ok g3 hi e)) (fun k hk co hco e => by
                      rcases List.mem_append.1 hk with hk | hk
                      · exact lw p (rslot_looks ho2) k hk co hco e
                      · have := writersOK_ok g3 hco e; have := hgt k hk; omega)
                    simp only at hd
                    rw [ep, eq] at hd
                    exact commute_sl g1 ho1 ho2 g2 hd hbind
                  · cases hcf
                · cases hcf
          cases hb0 : astep sp b st with
          | none => rw [hb0] at hc; simp at hc
          | some s0 =>
            rw [hb0] at hc
            simp only [Option.bind_some] at hc ⊢
            rw [hc]
            exact this

end Go.Abs

namespace Go.Abs

/-- The fence of a body: none, or that of a round. -/
def Fw : Option Nat → Fence
  | none => Fence.wide
  | some l => Fence.wide.inRound l
theorem Fw_fn {ro : Option Nat} {f : FuncId} : (Fw ro).fn f := by cases ro <;> trivial
theorem Fw_depth {ro : Option Nat} : (Fw ro).depth = none := by cases ro <;> rfl
theorem Fw_room {ro : Option Nat} {n : Nat} : (Fw ro).room n := fun d hd => by rw [Fw_depth] at hd; cases hd
theorem Fw_round {ro : Option Nat} : (Fw ro).round = ro := by cases ro <;> rfl
theorem callsIn_Fw {ro : Option Nat} {n : Nat} {P : Program} {f : FuncId} {args : Array Value} {w : World} {R : Ending → World → Prop} (h : Calls P f args w R) : CallsIn (Fw ro) n P f args w R := by
  cases ro with
  | none => exact callsIn_wide.2 h
  | some l => exact (callsIn_wide (n := n)).2 h

/-- A state: memory, slots, how many there are, what is deferred. -/
structure St (B : Base) (N : Nat) (D : List Deferred) (E : Env) (g : Nat → AV) (h : List AO) (a : Act) (w : World) : Prop where
  mem : Mem B E h w
  slots : ∀ k, rel E (g k) (a.tmps.getD k undef)
  size : a.tmps.size = N
  defers : a.defers = D

section
variable {P : Program} {ti : Nat → TInf} {B : Base} {E : Env} {h : List AO} {w : World} {g : Nat → AV} {a : Act} {o : Oper} {sp : Sp} {N : Nat} {D : List Deferred} {mu pures : List Nat} {ops : Array Oper}

theorem St.put (s : St B N D E g h a w) {E' : Env} {h' : List AO} {w' : World} (le : E.le E') (m : Mem B E' h' w') {d : Option Nat} {A : AV} {v : Value} (hd : ∀ x, d = some x → x < N) (hv : rel E' A v) : St B N D E' (upd g d A) h' (a.put d v) w' := by
  cases d with
  | none => exact ⟨m, fun k => rel.mono le _ _ (s.slots k), s.size, s.defers⟩
  | some d =>
    have hlt : d < a.tmps.size := by rw [s.size]; exact hd d rfl
    refine ⟨m, fun k => ?_, by simp [Act.put, s.size], s.defers⟩
    simp only [Act.put, upd]
    by_cases e : k = d
    · subst e
      rw [if_pos rfl]
      have : (a.tmps.setIfInBounds k v).getD k undef = v := by simp [Array.getD, hlt]
      rw [this]; exact hv
    · rw [if_neg e]
      have : (a.tmps.setIfInBounds d v).getD k undef = a.tmps.getD k undef := by
        simp only [Array.getD_eq_getD_getElem?, Array.getElem?_setIfInBounds_ne (Ne.symm e)]
      rw [this]; exact rel.mono le _ _ (s.slots k)

theorem compOps_get {all : Array Oper} {draw : Bool} : ∀ {l : List Oper} {cs : List CO}, compOps ti mu pures draw N all l = some cs → cs.length = l.length ∧
    ∀ (i : Nat) (o : Oper) (co : CO), l[i]? = some o → cs[i]? = some co → co.o = compOp ti mu o ∧ co.d = o.dst ∧ gof all o = some co.g ∧ (∀ d, o.dst = some d → d < N) ∧ (co.c ≠ 2 → co.c = kls pures co.o)
  | [], cs, h => by simp only [compOps, Option.some.injEq] at h; subst h; exact ⟨rfl, fun i o co hi => by simp at hi⟩
  | x :: l, cs, h => by
    simp only [compOps] at h
    split at h
    · rename_i gg cl h1 h2 h3
      cases h
      obtain ⟨k1, k2⟩ := compOps_get h2
      refine ⟨by simp [k1], fun i o co hi hc => ?_⟩
      cases i with
      | zero =>
        simp at hi hc; subst hi hc
        refine ⟨rfl, rfl, h1, fun d hd => ?_, fun hc => ?_⟩
        · rw [hd] at h3; simpa using h3
        · cases draw
          · exact absurd rfl hc
          · rfl
      | succ i => exact k2 i o co (by simpa using hi) (by simpa using hc)
    · cases h

theorem getD_bool {t : Array Value} {d : Nat} {b : Bool} (h : t.getD d undef = .bool b) : t[d]? = some (.bool b) := by
  rw [Array.getD_eq_getD_getElem?] at h
  cases ht : t[d]? with
  | none => rw [ht] at h; simp [undef] at h
  | some v => rw [ht] at h; simp at h; rw [h]
theorem getD_undef {t : Array Value} {d : Nat} (h : t.getD d undef = undef) : ∀ b, t[d]? ≠ some (.bool b) := by
  intro b hb
  rw [Array.getD_eq_getD_getElem?, hb] at h
  simp [undef] at h

theorem wanted_ok (hs : ∀ k, rel E (g k) (a.tmps.getD k undef)) {gg : Option (Nat × Bool)} (hg : gof ops o = some gg) {t : Bool} (ht : gd g gg = some t) : Region.wanted o (yielded ops a.tmps) = t := by
  unfold gof at hg
  unfold Region.wanted
  split at hg
  · rename_i hgd
    cases hg
    rw [hgd]
    simp only [gd, Option.some.injEq] at ht
    simpa using ht
  · rename_i j b hgd
    split at hg
    · rename_i d hd
      cases hg
      rw [hgd]
      simp only [gd] at ht
      have hr := hs d
      simp only [yielded, hd, Option.bind_some]
      split at ht
      · rename_i p hp
        cases ht
        rw [hp] at hr
        simp only [rel] at hr
        rw [getD_bool hr]
        cases p <;> cases b <;> rfl
      · rename_i hp
        cases ht
        rw [hp] at hr
        simp only [rel] at hr
        have := getD_undef hr
        split
        · rename_i b' hb'; exact absurd hb' (this b')
        · rfl
      · cases ht
    · cases hg

variable {F : Fence} {n : Nat} {Q : Exit → Act → World → Prop} {ro : Option Nat}

theorem step_ok (hti : TIok P ti) (hsp : SpOK P sp) (s : St B N D E g h a w) {i : Nat} {co : CO} (hi : ops[i]? = some o) (h1 : co.o = compOp ti mu o) (h2 : co.d = o.dst) (h3 : gof ops o = some co.g) (h4 : ∀ d, o.dst = some d → d < N)
    {g' : Nat → AV} {h' : List AO} (hst : astep sp co (g, h) = some (g', h')) {K : Act → World → Prop} (hK : ∀ E' a' w', St B N D E' g' h' a' w' → K a' w') : wpOpIn (Fw ro) n P ops Q i K a w := by
  unfold wpOpIn
  simp only [hi]
  unfold astep at hst
  simp only at hst
  split at hst
  · rename_i hgd
    rw [wanted_ok s.slots h3 hgd]
    simp only [if_true]
    refine ⟨fun f _ => Fw_fn, ?_⟩
    have hev' : ∀ {sp : Sp}, SpOK P sp → _ := fun {sp} hsp => ev_ok (P := P) (B := B) (E := E) (h := h) (w := w) (g := g) (a := a) (sp := sp) s.mem hti hsp s.slots mu o
    have hev : ∃ sp', (∀ r, evc sp g h co = r → r ≠ .no → ev sp' g h co.o = r) ∧ SpOK P sp' := by
      cases hc2 : Nat.beq co.c 2 with
      | true => exact ⟨sp, fun r he hn => by unfold evc at he; rw [hc2] at he; exact he, hsp⟩
      | false =>
        refine ⟨sp0 sp, fun r he hn => ?_, hsp.zero⟩
        unfold evc at he; rw [hc2] at he
        simp only at he
        unfold vOnly at he
        split at he
        · rename_i hh; rw [hh]; exact he
        · exact absurd he.symm hn
    obtain ⟨sp', evr, hsp'⟩ := hev
    have hev := hev' hsp'
    rw [← h1] at hev
    have hnd : ∀ c, o.op ≠ .defer c := fun c hc => by
      have hb : co.o = .bad := by rw [h1]; unfold compOp; simp only [hc]
      have : evc sp g h co = .no := by unfold evc; rw [hb]; split <;> rfl
      rw [this] at hst; cases hst
    rw [Oper.semAt_eq _ _ _ hnd]
    -- what the outcome gives
    have fin : ∀ {R : AV} {h1' : List AO}, Gives P o a w (Post B E h1' R) → g' = upd g co.d R → h' = h1' → o.uponIn (Fw ro) n P a K Q ((execOp a.eval o).run P w) := fun {R h1'} hgv e1 e2 => by
      subst e1 e2
      have fin' : ∀ {v : Value} {w' : World}, Post B E h' R v w' → K (a.put o.dst v) w' := fun {v w'} hp => by
        obtain ⟨E', q1, q2, q3⟩ := hp
        refine hK E' _ _ ?_
        rw [h2]
        exact s.put q1 q2 h4 q3
      rcases hgv with ⟨v, w', k1, k2⟩ | ⟨w', k1, k2⟩ | ⟨f, args, k1, k2⟩
      · rw [k1, Oper.uponIn_value]; exact fin' k2
      · rw [k1, Oper.uponIn_skip]; exact fin' k2
      · rw [k1, Oper.uponIn_enter]
        refine ⟨fun hh => (by rw [Fw_depth] at hh; cases hh), callsIn_Fw (Calls.mono k2 fun e w' he => ?_)⟩
        obtain ⟨v, rfl, hp⟩ := he
        exact fin' hp
    split at hst
    · rename_i C A he
      split at hst
      · rename_i hC
        cases hst
        rw [evr _ he (by simp)] at hev
        exact fin (hev hC) rfl rfl
      · cases hst
    · rename_i C A h'' he
      split at hst
      · rename_i hC
        cases hst
        rw [evr _ he (by simp)] at hev
        exact fin (hev hC) rfl rfl
      · cases hst
    · rename_i C h'' he
      split at hst
      · rename_i hC
        cases hst
        rw [evr _ he (by simp)] at hev
        exact fin (hev hC) rfl rfl
      · cases hst
    · cases hst
  · rename_i hgd
    cases hst
    rw [wanted_ok s.slots h3 hgd]
    simp only [Bool.false_eq_true, if_false]
    refine ⟨fun f _ => Fw_fn, hK E _ _ ?_⟩
    rw [h2]
    exact s.put (Env.le.refl E) s.mem h4 (by simp only [rel])
  · cases hst

theorem ops_ok (hti : TIok P ti) (hsp : SpOK P sp) {cs : List CO} {draw : Bool} (hc : compOps ti mu pures draw N ops ops.toList = some cs) : ∀ (l : List Nat) {E : Env} {g : Nat → AV} {h : List AO} {a : Act} {w : World}, St B N D E g h a w → ∀ {gF : Nat → AV} {hF : List AO},
    afold sp cs l (g, h) = some (gF, hF) → (∀ E' a' w', St B N D E' gF hF a' w' → Q .normal a' w') → wpOpsIn (Fw ro) n P ops Q l a w
  | [], E, g, h, a, w, s, gF, hF, hf, hQ => by
    simp only [afold, Option.some.injEq, Prod.mk.injEq] at hf
    obtain ⟨rfl, rfl⟩ := hf
    exact hQ E a w s
  | i :: l, E, g, h, a, w, s, gF, hF, hf, hQ => by
    rw [wpOpsIn_cons]
    obtain ⟨k1, k2⟩ := compOps_get hc
    simp only [afold] at hf
    cases hi : ops[i]? with
    | none =>
      have : cs[i]? = none := by
        rw [List.getElem?_eq_none_iff, k1, Array.length_toList]
        exact Array.getElem?_eq_none_iff.1 hi
      rw [this] at hf
      unfold wpOpIn
      simp only [hi]
      exact ops_ok hti hsp hc l s hf hQ
    | some o =>
      obtain ⟨co, hco⟩ : ∃ co, cs[i]? = some co := by
        have hlt : i < ops.size := (Array.getElem?_eq_some_iff.1 hi).1
        exact ⟨cs[i]'(by rw [k1, Array.length_toList]; exact hlt), by simp⟩
      rw [hco] at hf
      simp only at hf
      obtain ⟨q1, q2, q3, q4, _⟩ := k2 i o co (by simpa using hi) hco
      cases hs : astep sp co (g, h) with
      | none => rw [hs] at hf; cases hf
      | some st =>
        obtain ⟨g1, h1⟩ := st
        rw [hs] at hf
        simp only [Option.bind_some] at hf
        exact step_ok hti hsp s hi q1 q2 q3 q4 hs fun E' a' w' s' => ops_ok hti hsp hc l s' hf hQ

end
end Go.Abs

namespace Go.Abs
open Go.RowKit

theorem callsIn_any {ro : Option Nat} {n m : Nat} {P : Program} {f : FuncId} {args : Array Value} {w : World} {R : Ending → World → Prop} (h : CallsIn (Fw ro) n P f args w R) : CallsIn (Fw ro) m P f args w R :=
  ⟨h.1, fun cs _ => h.2 cs Fw_room⟩
theorem roundIn_any {ro : Option Nat} {n m : Nat} {P : Program} {l : Nat} {f : FuncId} {tmps : Array Value} {assign body : Code} {w : World} {R : Ending → World → Prop} (h : RoundIn (Fw ro) n P l f tmps assign body w R) : RoundIn (Fw ro) m P l f tmps assign body w R :=
  ⟨h.1, fun c cs _ => h.2 c cs Fw_room⟩
theorem Fw_in (l : Nat) : (Fw none).inRound l = Fw (some l) := rfl

/-- How a round's body may be left. -/
def postR (B : Nat) (I : Nat → World → Prop) (Ix : World → Prop) (i : Nat) (W : World) : Exit → Act → World → Prop
  | .normal, _, W' => KeepsFrom B W W' ∧ I (i + 1) W'
  | .ret, _, W' => KeepsFrom B W W' ∧ Ix W'
  | _, _, _ => False

theorem wpIn_range {P : Program} {n : Nat} {g : Operand} {ps : Array Tmp} {assign body : Code} {Q : Exit → Act → World → Prop} {a : Act} {w : World}
    {gf : Nat} {lb : Array Value} (hg : a.eval g = .func (.func gf) #[] lb) (eg : ∀ args w, (callFunc gf args).run P w = .ok (.enter gf args) w)
    (len : Nat) (el : Nat → Value) (hps : ps.size = 1) (I : Nat → World → Prop) (Ix : World → Prop)
    (hI : ∀ i W W' row, I i W → W.grownBy W' row → (∀ r, row = some r → w.heap.size ≤ r ∧ ∃ o : Obj, W.heap[r]? = some o ∧ o.isCells = false) → I i W')
    (hIx : ∀ W W' row, Ix W → W.grownBy W' row → (∀ r, row = some r → w.heap.size ≤ r ∧ ∃ o : Obj, W.heap[r]? = some o ∧ o.isCells = false) → Ix W')
    (h0 : I 0 w)
    (hseq : ∀ (l : Nat) (J Jx : Nat → World → Prop) (W : World), (∀ i W W', J i W → W.grownBy W' none → J i W') → (∀ i W, J i W → I i W) →
      (∀ i W1, J i W1 → i < len → YieldAt (Fw none) 0 P l #[el i] W1 fun e W' => (e = .returned (.bool true) ∧ J (i + 1) W') ∨ (e = .returned (.bool false) ∧ Jx (i + 1) W')) → J 0 W →
      CallsIn (Fw none) 0 P gf (#[.func (.yield l) #[] #[]] ++ lb) W fun e W' => (∃ v, e = .returned v) ∧ (J len W' ∨ ∃ i, i ≤ len ∧ Jx i W'))
    (hround : ∀ (l i : Nat) (W : World), w.heap.size ≤ l → (∃ r, W.heap[l]? = some (.loop r)) → I i W → i < len →
      assign.wpIn (Fw (some l)) 0 P (Exit.then (fun a' W' => KeepsFrom w.heap.size W W' ∧ I i W ∧ ∀ W2, W'.grownBy W2 (some l) → (∃ o : Obj, W'.heap[l]? = some o ∧ o.isCells = false) → body.wpIn (Fw (some l)) 0 P (postR w.heap.size I Ix i W2) a' W2) (fun _ _ _ => False))
        { tmps := (ps.zip #[el i]).foldl (fun t (p, v) => t.setIfInBounds p v) a.tmps, defers := [] } W)
    (hdone : ∀ (D : Nat) (W : World), w.heap.size ≤ D → I len W → W.heap[D]? = some (.deferred (some [])) → Q .normal { a with defers := { target := .collected D, args := #[] } :: a.defers } W)
    (hstop : ∀ (D : Nat) (W : World), w.heap.size ≤ D → Ix W → W.heap[D]? = some (.deferred (some [])) → Code.ret.wpIn (Fw none) n P Q { a with defers := { target := .collected D, args := #[] } :: a.defers } W) :
    (Code.rangeFunc g ps assign body).wpIn (Fw none) n P Q a w := by
  refine wpIn_rangeFunc ?_
  intro fn hfn
  obtain ⟨rec, hrec⟩ : ∃ rec : LoopState → Option Code → Loop, rec = fun st pe => { state := st, pending := pe, fn, tmps := a.tmps, params := ps, assign, body, defers := w.heap.size } := ⟨_, rfl⟩
  obtain ⟨W1, hW1⟩ : ∃ W1, (w.alloc (.deferred (some []))).alloc (.loop (rec .ready none)) = W1 := ⟨_, rfl⟩
  have putI : ∀ {i : Nat} {W : World} {l : Nat} {o : Obj} (o' : Obj), I i W → w.heap.size ≤ l → W.heap[l]? = some o → o.isCells = false → I i (W.putObj l o') := fun o' hi hl ho hc =>
    hI _ _ _ _ hi (grownBy_putObj' _ _ o') (fun r e => by cases e; exact ⟨hl, _, ho, hc⟩)
  have putX : ∀ {W : World} {l : Nat} {o : Obj} (o' : Obj), Ix W → w.heap.size ≤ l → W.heap[l]? = some o → o.isCells = false → Ix (W.putObj l o') := fun o' hi hl ho hc =>
    hIx _ _ _ hi (grownBy_putObj' _ _ o') (fun r e => by cases e; exact ⟨hl, _, ho, hc⟩)
  have hL1 : W1.heap[w.heap.size + 1]? = some (.loop (rec .ready none)) := by
    rw [← hW1]; have := World.alloc_heap_new (w.alloc (.deferred (some []))) (.loop (rec .ready none)); rwa [World.size_alloc] at this
  have hK1 : W1.heap[w.heap.size]? = some (.deferred (some [])) := by
    rw [← hW1]; exact (Below.heap_alloc _ _ _ (by simp)).trans (World.alloc_heap_new w _)
  have hI1 : I 0 W1 := by
    rw [← hW1]
    exact hI _ _ _ none (hI _ _ _ none h0 (World.grownBy_alloc w _ none) (fun r e => by cases e)) (World.grownBy_alloc _ _ none) (fun r e => by cases e)
  refine ⟨w.heap.size + 1, [{ target := .collected w.heap.size, args := #[] }], W1, { target := .fn (.func gf) lb, args := #[.func (.yield (w.heap.size + 1)) #[] #[]] }, W1, gf,
    #[.func (.yield (w.heap.size + 1)) #[] #[]] ++ lb, W1, ?_, ?_, ?_, ?_, fun hh => (by rw [Fw_depth] at hh; cases hh), ?_⟩
  · rw [Fw_round, ← hW1, hrec]; exact run_enterLoop_outer _ _ _ _ _
  · simp only [resolve, hg]
    simp [go_sem]
  · intro f' hf'; exact Fw_fn
  · simp [invoke, go_sem, eg]
  · refine callsIn_any (n := 0) ?_
    have keep : ∀ {W W' : World} {k : Nat} {o : Obj}, W.grownBy W' none → W.heap[k]? = some o → W'.heap[k]? = some o := fun {W W' k o} hg' hk =>
      (hg'.block k (Array.getElem?_eq_some_iff.1 hk).1 (fun e => by cases e)).trans hk
    refine CallsIn.mono (hseq (w.heap.size + 1)
      (fun i W => I i W ∧ W.heap[w.heap.size + 1]? = some (.loop (rec .ready none)) ∧ W.heap[w.heap.size]? = some (.deferred (some [])))
      (fun _ W => Ix W ∧ W.heap[w.heap.size + 1]? = some (.loop (rec .done (some .ret))) ∧ W.heap[w.heap.size]? = some (.deferred (some [])))
      W1 (fun i W W' hj hg' => ⟨hI _ _ _ none hj.1 hg' (fun r e => by cases e), keep hg' hj.2.1, keep hg' hj.2.2⟩) (fun i W hj => hj.1) ?_ ⟨hI1, hL1, hK1⟩) ?_
    · -- one round
      rintro i W ⟨hi, hl, hk⟩ hlen
      have hy := run_yield (P := P) (args := #[el i]) hl (by rw [hrec]; exact hps.symm)
      rw [hrec] at hy
      refine ⟨fn, _, assign, body, hy, roundIn_of_wpIn hfn (wpIn_mono (hround _ i W (by omega) ⟨_, hl⟩ hi hlen) ?_)⟩
      clear hy
      intro e a' Wa hq
      cases e with
      | normal =>
        obtain ⟨hkf, _, hb⟩ := hq
        have hl' := hkf.same _ _ (by omega) hl rfl
        have hk' := hkf.same _ _ (Nat.le_refl _) hk rfl
        have hlt : w.heap.size + 1 < Wa.heap.size := (Array.getElem?_eq_some_iff.1 hl').1
        refine ⟨_, run_beginRound hl' (by rw [hrec]), ?_⟩
        have hl2 : (Wa.putObj (w.heap.size + 1) (.loop { rec .ready none with state := .busy })).heap[w.heap.size + 1]? = some (.loop { rec .ready none with state := .busy }) := World.putObj_heap_same hlt
        have hk2 : (Wa.putObj (w.heap.size + 1) (.loop { rec .ready none with state := .busy })).heap[w.heap.size]? = some (.deferred (some [])) := (World.putObj_heap_other (by omega)).trans hk'
        refine wpIn_mono (hb _ (grownBy_putObj' _ _ _) ⟨_, hl', rfl⟩) ?_
        have fin : ∀ (jump : Option Code) (W3 : World), KeepsFrom w.heap.size (Wa.putObj (w.heap.size + 1) (.loop { rec .ready none with state := .busy })) W3 →
            (Instr.endRound (w.heap.size + 1) jump).run P W3 = .ok (.bool jump.isNone) (W3.putObj (w.heap.size + 1) (.loop (rec (if jump.isNone then .ready else .done) jump))) ∧
            W3.heap[w.heap.size + 1]? = some (.loop { rec .ready none with state := .busy }) ∧
            (W3.putObj (w.heap.size + 1) (.loop (rec (if jump.isNone then .ready else .done) jump))).heap[w.heap.size + 1]? = some (.loop (rec (if jump.isNone then .ready else .done) jump)) ∧
            (W3.putObj (w.heap.size + 1) (.loop (rec (if jump.isNone then .ready else .done) jump))).heap[w.heap.size]? = some (.deferred (some [])) := fun jump W3 hk3 => by
          have hl3 := hk3.same _ _ (by omega) hl2 rfl
          have := run_endRound (P := P) jump hl3
          rw [hrec] at this ⊢
          exact ⟨this, by rw [hrec] at hl3; exact hl3, World.putObj_heap_same (Array.getElem?_eq_some_iff.1 hl3).1, (World.putObj_heap_other (by omega)).trans (hk3.same _ _ (Nat.le_refl _) hk2 rfl)⟩
        rintro e a3 W3 hp
        cases e with
        | normal =>
          obtain ⟨hk3, hi3⟩ := hp
          obtain ⟨hr, hl3, hl4, hk4⟩ := fin none W3 hk3
          exact ⟨_, _, hr, .inl ⟨rfl, putI _ hi3 (by omega) hl3 rfl, hl4, hk4⟩⟩
        | ret =>
          obtain ⟨hk3, hi3⟩ := hp
          obtain ⟨hr, hl3, hl4, hk4⟩ := fin (some .ret) W3 hk3
          exact ⟨_, _, hr, .inr ⟨rfl, putX _ hi3 (by omega) hl3 rfl, hl4, hk4⟩⟩
        | exit id => exact hp.elim
        | goto t => exact hp.elim
        | panic ch => exact hp.elim
        | outgrown => exact hp.elim
      | exit id => exact hq.elim
      | goto t => exact hq.elim
      | ret => exact hq.elim
      | panic ch => exact hq.elim
      | outgrown => exact hq.elim
    · rintro e W2 ⟨⟨v, rfl⟩, (⟨hi, hl, hk⟩ | ⟨i, _, hi, hl, hk⟩)⟩
      · exact ⟨none, _, by have := run_endLoop (P := P) hl (by rw [hrec]; simp); rw [hrec] at this; exact this, hdone _ _ (Nat.le_refl _) (putI _ hi (by omega) hl rfl) ((World.putObj_heap_other (by omega)).trans hk)⟩
      · exact ⟨some .ret, _, by have := run_endLoop (P := P) hl (by rw [hrec]; simp); rw [hrec] at this; exact this, hstop _ _ (Nat.le_refl _) (putX _ hi (by omega) hl rfl) ((World.putObj_heap_other (by omega)).trans hk)⟩
end Go.Abs

namespace Go.Abs

theorem mask_bits {acc : Array Nat} {j : Nat} : ∀ (es : List Edge) (s : Nat), (es.foldl (fun s e => if Region.binds .any e then s ||| 2 ^ e.on ||| acc.getD e.on 0 else s) s).testBit j = true →
    s.testBit j = true ∨ ∃ e ∈ es, Region.binds .any e = true ∧ (j = e.on ∨ (acc.getD e.on 0).testBit j = true)
  | [], s, h => .inl h
  | e :: es, s, h => by
    simp only [List.foldl_cons] at h
    rcases mask_bits es _ h with h | ⟨e', h1, h2⟩
    · split at h
      · rename_i hb
        simp only [Nat.testBit_or, Bool.or_eq_true] at h
        rcases h with (h | h) | h
        · exact .inl h
        · rw [Nat.testBit_two_pow] at h
          exact .inr ⟨e, by simp, hb, .inl (by have := of_decide_eq_true h; omega)⟩
        · exact .inr ⟨e, by simp, hb, .inr h⟩
      · exact .inl h
    · exact .inr ⟨e', List.mem_cons_of_mem _ h1, h2⟩

theorem befores_size (ops : Array Oper) : ∀ n, (befores ops n).size = n
  | 0 => rfl
  | n + 1 => by simp [befores, befores_size ops n]
theorem befores_get (ops : Array Oper) {i : Nat} : ∀ {n : Nat}, i < n → (befores ops n).getD i 0 = (match ops[i]? with | some o => maskOf (befores ops i) o | none => 0)
  | 0, h => by omega
  | n + 1, h => by
    have hs := befores_size ops n
    simp only [befores]
    by_cases e : i = n
    · subst e
      simp only [Array.getD_eq_getD_getElem?]
      rw [Array.getElem?_push, if_pos hs.symm]
      rfl
    · rw [← befores_get ops (show i < n by omega)]
      simp only [Array.getD_eq_getD_getElem?]
      rw [Array.getElem?_push, if_neg (by omega)]

/-- What is listed has all that comes before it listed. -/
def Closed (ops : Array Oper) (listed : Array Bool) : Prop := ∀ i o, ops[i]? = some o → listed.getD i true = true → ∀ e ∈ o.after, Region.binds .any e = true → listed.getD e.on false = true

theorem ordered_listed {ops : Array Oper} {listed : Array Bool} (hc : Closed ops listed) (hl : listed.size = ops.size) : ∀ (i : Nat) (o : Oper), ops[i]? = some o → (∀ e ∈ o.after, Region.binds .any e = true → listed.getD e.on false = true) →
    ∀ {n : Nat}, i < n → ∀ j, ((befores ops n).getD i 0).testBit j = true → listed.getD j false = true := by
  intro i
  induction i using Nat.strongRecOn with
  | _ i ih =>
    intro o ho hp n hn j hj
    rw [befores_get ops hn, ho] at hj
    simp only [maskOf] at hj
    rcases mask_bits _ _ hj with h | ⟨e, h1, h2, h3⟩
    · simp at h
    · have he : e ∈ o.after := by simpa using h1
      rcases h3 with rfl | h3
      · exact hp e he h2
      · have hlt : e.on < i := by
          rcases Nat.lt_or_ge e.on i with h | h
          · exact h
          · have : (befores ops i).getD e.on 0 = 0 := by
              simp only [Array.getD_eq_getD_getElem?]
              rw [Array.getElem?_eq_none_iff.2 (by rw [befores_size]; exact h)]; rfl
            rw [this] at h3; simp at h3
        have hlo : i < ops.size := (Array.getElem?_eq_some_iff.1 ho).1
        have hle := hp e he h2
        have hget : ops[e.on]? = some ops[e.on] := by simp
        refine ih e.on hlt ops[e.on] hget (fun e' he' hb' => hc e.on _ hget ?_ e' he' hb') hlt j h3
        have hs : e.on < listed.size := by omega
        simpa [Array.getD, hs] using hle

def rem (ops : Array Oper) (listed : Array Bool) : List Nat := (List.range ops.size).filter fun i => !listed.getD i true

theorem range_split {n i : Nat} (h : i < n) : ∃ t, List.range n = List.range i ++ i :: t ∧ ∀ k ∈ t, i < k := by
  refine ⟨(List.range n).drop (i + 1), ?_, fun k hk => ?_⟩
  · have : List.range n = (List.range n).take i ++ (List.range n).drop i := (List.take_append_drop i _).symm
    rw [List.drop_eq_getElem_cons (by simpa using h)] at this
    rw [List.take_range, Nat.min_eq_left (by omega)] at this
    simpa using this
  · obtain ⟨m, hm, rfl⟩ := List.getElem_of_mem hk
    simp; omega

theorem rem_split {ops : Array Oper} {listed : Array Bool} (hl : listed.size = ops.size) {i : Nat} (hi : i < ops.size) (hn : listed.getD i true = false) :
    ∃ l1 l2, rem ops listed = l1 ++ i :: l2 ∧ rem ops (listed.setIfInBounds i true) = l1 ++ l2 ∧ (∀ j ∈ l1, j < i ∧ listed.getD j true = false) ∧ (∀ k ∈ l2, i < k) ∧ l1.Pairwise (· < ·) := by
  obtain ⟨t, ht, htk⟩ := range_split hi
  have hne : ∀ k, k ≠ i → (listed.setIfInBounds i true).getD k true = listed.getD k true := fun k hk => by
    simp only [Array.getD_eq_getD_getElem?, Array.getElem?_setIfInBounds_ne (Ne.symm hk)]
  have hself : (listed.setIfInBounds i true).getD i true = true := by
    have : i < listed.size := by omega
    simp [Array.getD, this]
  refine ⟨(List.range i).filter fun i => !listed.getD i true, t.filter fun i => !listed.getD i true, ?_, ?_, fun j hj => ?_, fun k hk => htk k (List.mem_filter.1 hk).1, List.Pairwise.filter _ List.pairwise_lt_range⟩
  · unfold rem
    rw [ht, List.filter_append, List.filter_cons, hn]; rfl
  · unfold rem
    rw [ht, List.filter_append, List.filter_cons, hself]
    simp only [Bool.not_true, Bool.false_eq_true, if_false]
    congr 1
    · exact List.filter_congr fun k hk => by rw [hne k (by have := List.mem_range.1 hk; omega)]
    · exact List.filter_congr fun k hk => by rw [hne k (by have := htk k hk; omega)]
  · obtain ⟨h1, h2⟩ := List.mem_filter.1 hj
    exact ⟨List.mem_range.1 h1, by simpa using h2⟩

section
variable {P : Program} {ti : Nat → TInf} {B : Base} {sp : Sp} {N : Nat} {D : List Deferred} {mu pures : List Nat} {ops : Array Oper} {n : Nat} {Q : Exit → Act → World → Prop} {ro : Option Nat}

theorem any_ok (hti : TIok P ti) (hsp : SpOK P sp) {cs : List CO} {draw : Bool} (hc : compOps ti mu pures draw N ops ops.toList = some cs) {cf : List (Nat × Nat)} (hok : orderOK ops cs cf = true) {gF : Nat → AV} {hF : List AO} (hdis : ∀ x ∈ cf, Dis (gF x.1) (gF x.2)) (hQ : ∀ E' a' w', St B N D E' gF hF a' w' → Q .normal a' w') :
    ∀ (fuel : Nat) (listed : Array Bool) (E : Env) (g : Nat → AV) (h : List AO) (a : Act) (w : World), listed.size = ops.size → Closed ops listed → (rem ops listed).length ≤ fuel → St B N D E g h a w → afold sp cs (rem ops listed) (g, h) = some (gF, hF) →
      wpAnyIn (Fw ro) n P .any ops Q fuel listed a w := by
  obtain ⟨k1, k2⟩ := compOps_get hc
  have hcl : ∀ co ∈ cs, co.c ≠ 2 → co.c = kls pures co.o := fun co hco => by
    obtain ⟨i, hi, he⟩ := List.getElem_of_mem hco
    have hio : i < ops.toList.length := by omega
    exact (k2 i ops.toList[i] co (by simp [hio]) (by rw [List.getElem?_eq_getElem hi, he])).2.2.2.2
  unfold orderOK at hok
  simp only [Bool.and_eq_true] at hok
  obtain ⟨hback, hord⟩ := hok
  have hfin : ∀ {listed : Array Bool} {E : Env} {g : Nat → AV} {h : List AO} {a : Act} {w : World}, rem ops listed = [] → St B N D E g h a w → afold sp cs (rem ops listed) (g, h) = some (gF, hF) → Q .normal a w := fun {listed E g h a w} hr s hf => by
    rw [hr] at hf
    simp only [afold, Option.some.injEq, Prod.mk.injEq] at hf
    obtain ⟨rfl, rfl⟩ := hf
    exact hQ _ _ _ s
  have hready : ∀ {listed : Array Bool} {i : Nat}, i ∈ Region.ready .any ops listed ↔ i < ops.size ∧ listed.getD i true = false ∧ ∃ o, ops[i]? = some o ∧ ∀ e ∈ o.after, Region.binds .any e = true → listed.getD e.on false = true := fun {listed i} => by
    unfold Region.ready
    rw [List.mem_filter, List.mem_range, Bool.and_eq_true]
    refine and_congr_right fun hlt => and_congr (by simp) ?_
    have : ops[i]? = some ops[i] := by simp
    rw [this]
    simp only [Option.map_some, Option.getD_some, Array.all_eq_true_iff_forall_mem, Bool.or_eq_true, Bool.not_eq_true', Option.some.injEq, exists_eq_left']
    constructor
    · intro hh e he hb
      rcases hh e he with h | h
      · rw [hb] at h; cases h
      · exact h
    · intro hh e he
      cases hb : Region.binds .any e
      · exact .inl rfl
      · exact .inr (hh e he hb)
  have hback' : ∀ {i : Nat} {o : Oper}, ops[i]? = some o → ∀ e ∈ o.after, Region.binds .any e = true → e.on < i := fun {i o} ho e he hb => by
    unfold backOK at hback
    have := List.all_eq_true.1 hback i (List.mem_range.2 (Array.getElem?_eq_some_iff.1 ho).1)
    rw [ho] at this
    have := (Array.all_eq_true_iff_forall_mem.1 this) e he
    rw [hb] at this
    simpa using this
  intro fuel
  induction fuel with
  | zero =>
    intro listed E g h a w hl hcd hlen s hf
    have hr : rem ops listed = [] := List.eq_nil_of_length_eq_zero (by omega)
    refine ⟨?_, hfin hr s hf⟩
    refine List.eq_nil_iff_forall_not_mem.2 fun i hi => ?_
    obtain ⟨h1, h2, _⟩ := hready.1 hi
    have : i ∈ rem ops listed := List.mem_filter.2 ⟨List.mem_range.2 h1, by rw [h2]; rfl⟩
    rw [hr] at this; cases this
  | succ fuel ih =>
    intro listed E g h a w hl hcd hlen s hf
    constructor
    · intro hrd
      refine hfin (List.eq_nil_iff_forall_not_mem.2 fun i hi => ?_) s hf
      have none : ∀ i, i ∉ rem ops listed := by
        intro i
        induction i using Nat.strongRecOn with
        | _ i ih2 =>
          intro hi
          obtain ⟨h1, h2⟩ := List.mem_filter.1 hi
          have hlt := List.mem_range.1 h1
          have : i ∈ Region.ready .any ops listed := hready.2 ⟨hlt, by simpa using h2, ops[i], by simp, fun e he hb => by
            have hlt' : e.on < i := hback' (by simp) e he hb
            have hn := ih2 e.on hlt'
            cases hg : listed.getD e.on true
            · exact absurd (List.mem_filter.2 ⟨List.mem_range.2 (by omega), by rw [hg]; rfl⟩) hn
            · have hs : e.on < listed.size := by omega
              simpa [Array.getD, hs] using hg⟩
          rw [hrd] at this; cases this
      exact none i hi
    · intro i hi
      obtain ⟨hlt, hn, o, ho, hp⟩ := hready.1 hi
      obtain ⟨l1, l2, e1, e2, e3, e4, e5⟩ := rem_split hl hlt hn
      obtain ⟨co, hco⟩ : ∃ co, cs[i]? = some co := ⟨cs[i]'(by rw [k1, Array.length_toList]; exact hlt), by simp⟩
      obtain ⟨q1, q2, q3, q4, _⟩ := k2 i o co (by simpa using ho) hco
      rw [e1] at hf
      have hap : ∀ j ∈ l1, ∀ c', cs[j]? = some c' → apart c' co = true ∨ ∃ x ∈ cf, confOf cs j i c' co = some x := fun j hj c' hc' => by
        obtain ⟨hji, hjn⟩ := e3 j hj
        have h1 := List.all_eq_true.1 (List.all_eq_true.1 hord i (List.mem_range.2 hlt)) j (List.mem_range.2 hji)
        rw [hc', hco] at h1
        simp only [Bool.or_eq_true] at h1
        rcases h1 with (h1 | h1) | h1
        · exfalso
          have := ordered_listed hcd hl i o ho hp hlt j (by simpa [ordered] using h1)
          have hs : j < listed.size := by omega
          simp [Array.getD, hs] at this hjn
          rw [this] at hjn; cases hjn
        · exact .inl h1
        · split at h1
          · rename_i x hx; exact .inr ⟨x, by simpa using h1, hx⟩
          · cases h1
      have hf' := afold_first hco hcl (cf := cf) hdis l1 (fun j hj => (e3 j hj).1) e4 e5 hap hf
      simp only [afold, hco] at hf'
      cases hs : astep sp co (g, h) with
      | none => rw [hs] at hf'; cases hf'
      | some st =>
        obtain ⟨g1, h1⟩ := st
        rw [hs] at hf'
        simp only [Option.bind_some] at hf'
        refine step_ok hti hsp s ho q1 q2 q3 q4 hs fun E' a' w' s' => ih _ E' g1 h1 a' w' (by simp [hl]) ?_ ?_ s' (by rw [e2]; exact hf')
        · intro k ok hk hkl e he hb
          have mono : ∀ x, listed.getD x false = true → (listed.setIfInBounds i true).getD x false = true := fun x hx => by
            by_cases e : x = i
            · subst e
              have : x < listed.size := by omega
              simp [Array.getD, this]
            · simp only [Array.getD_eq_getD_getElem?, Array.getElem?_setIfInBounds_ne (Ne.symm e)] at hx ⊢; exact hx
          by_cases e' : k = i
          · subst e'
            rw [ho] at hk; cases hk
            exact mono _ (hp e he hb)
          · refine mono _ (hcd k ok hk ?_ e he hb)
            simp only [Array.getD_eq_getD_getElem?, Array.getElem?_setIfInBounds_ne (Ne.symm e')] at hkl ⊢; exact hkl
        · rw [e2]; rw [e1] at hlen; simp at hlen ⊢; omega

theorem region_ok (hti : TIok P ti) (hsp : SpOK P sp) {id : Nat} {draw : Bool} (hm : P.follows .mixedOrders = true) {cs : List CO} (hc : compOps ti mu pures draw N ops ops.toList = some cs) {cf : List (Nat × Nat)} (hok : draw = true → orderOK ops cs cf = true) {E : Env} {g : Nat → AV} {h : List AO} {a : Act} {w : World}
    (s : St B N D E g h a w) {gF : Nat → AV} {hF : List AO} (hf : afold sp cs (List.range ops.size) (g, h) = some (gF, hF)) (hdis : ∀ x ∈ cf, Dis (gF x.1) (gF x.2)) (hQ : ∀ E' a' w', St B N D E' gF hF a' w' → Q .normal a' w') : (Code.region id ops draw).wpIn (Fw ro) n P Q a w := by
  cases draw with
  | false => exact wpIn_region (ops_ok hti hsp hc _ s hf hQ)
  | true =>
    refine wpIn_region_any hm ?_
    have hrem : rem ops (Array.replicate ops.size false) = List.range ops.size := by
      unfold rem
      refine List.filter_eq_self.2 fun i hi => ?_
      have := List.mem_range.1 hi
      simp [Array.getD, this]
    refine any_ok hti hsp hc (hok rfl) hdis hQ _ _ E g h a _ (by simp) (fun i o ho hl => ?_) (by rw [hrem]; simp) ⟨s.mem.drew, s.slots, s.size, s.defers⟩ (by rw [hrem]; exact hf)
    have hlt : i < ops.size := (Array.getElem?_eq_some_iff.1 ho).1
    simp [Array.getD, hlt] at hl

end
end Go.Abs

namespace Go.Abs

abbrev SL := List (Nat × AV)
abbrev KT := SL → List AO → Prop

def conj : Option Prop → Prop → Prop
  | none, q => q
  | some p, q => p ∧ q
theorem conj_iff {C : Option Prop} {q : Prop} : conj C q ↔ holds C ∧ q := by cases C <;> simp [conj, holds]

def trim : List Nat → SL → SL
  | [], _ => []
  | j :: r, s => (j, look s j) :: trim r s
def put (d : Option Nat) (A : AV) (s : SL) : SL := match d with | some d => (d, A) :: s | none => s

/-- Loads and stores of which the order is free: of two objects. -/
def chkC : List (Nat × Nat) → SL → Prop → Prop
  | [], _, q => q
  | (p, r) :: t, s, q => match look s p with
    | .ptr i _ _ => match objOf (look s r) with
      | some j => match Nat.beq i j with | true => False | false => chkC t s q
      | none => False
    | .rop _ => chkC t s q
    | _ => False
theorem chkC_ok : ∀ {cf : List (Nat × Nat)} {s : SL} {q : Prop}, chkC cf s q → q ∧ ∀ x ∈ cf, Dis (look s x.1) (look s x.2)
  | [], s, q, h => ⟨h, fun x hx => by cases hx⟩
  | (p, r) :: t, s, q, h => by
    simp only [chkC] at h
    split at h
    · rename_i i e o hp
      split at h
      · rename_i j hr
        split at h
        · exact h.elim
        · rename_i hb
          obtain ⟨k1, k2⟩ := chkC_ok h
          refine ⟨k1, fun x hx => ?_⟩
          rcases List.mem_cons.1 hx with rfl | hx
          · exact .inl ⟨i, e, o, j, hp, hr, fun e => by subst e; simp at hb⟩
          · exact k2 x hx
      · exact h.elim
    · rename_i c hp
      obtain ⟨k1, k2⟩ := chkC_ok h
      refine ⟨k1, fun x hx => ?_⟩
      rcases List.mem_cons.1 hx with rfl | hx
      · exact .inr ⟨c, hp⟩
      · exact k2 x hx
    · exact h.elim

/-- Two ways. -/
def fork : Bool → Prop → Prop → Prop
  | true, a, _ => a
  | false, _, b => b
theorem fork_true (a b : Prop) : fork true a b = a := rfl
theorem fork_false (a b : Prop) : fork false a b = b := rfl
theorem fork_intro {p : Bool} {a b : Prop} (h1 : p = true → a) (h2 : p = false → b) : fork p a b := by
  cases p
  · exact h2 rfl
  · exact h1 rfl
def onER : ER → KT → Option Nat → SL → List AO → Prop
  | .v C A, k, d, s, h => conj C (k (put d A s) h)
  | .e C A h', k, d, s, _ => conj C (k (put d A s) h')
  | .k C h', k, d, s, _ => conj C (k (put d .undef s) h')
  | .no, _, _, _, _ => False
def doOp (sp : Sp) (co : CO) (k : KT) (s : SL) (h : List AO) : Prop := onER (evc sp (look s) h co) k co.d s h
def noOp (co : CO) (k : KT) (s : SL) (h : List AO) : Prop := k (put co.d .undef s) h
def ifB : Bool → Bool → Sp → CO → KT → SL → List AO → Prop
  | true, true, sp, co, k, s, h => doOp sp co k s h
  | false, false, sp, co, k, s, h => doOp sp co k s h
  | true, false, _, co, k, s, h => noOp co k s h
  | false, true, _, co, k, s, h => noOp co k s h
def onG : AV → Nat → Bool → Sp → CO → KT → SL → List AO → Prop
  | .bool p, d, b, sp, co, k, s, h => fork p (ifB true b sp co k ((d, .bool true) :: s) h) (ifB false b sp co k ((d, .bool false) :: s) h)
  | .undef, _, _, _, co, k, s, h => noOp co k s h
  | _, _, _, _, _, _, _, _ => False
def onGd : Option (Nat × Bool) → Sp → CO → KT → SL → List AO → Prop
  | none, sp, co, k, s, h => doOp sp co k s h
  | some (d, b), sp, co, k, s, h => onG (look s d) d b sp co k s h
/-- A region's operations. -/
def runOps (sp : Sp) (keep : List Nat) (cf : List (Nat × Nat)) : List CO → KT → SL → List AO → Prop
  | [], k, s, h => chkC cf s (k (trim keep s) h)
  | co :: r, k, s, h => onGd co.g sp co (runOps sp keep cf r k) s h

/-! ### Loops -/
/-- A loop's invariant: a family of states; what is known of the index; what goes down. 'ren': the makings of the objects are counted anew. -/
structure LI where
  X : Type
  x0 : X
  pre : X → Prop
  inv : X → SL × List AO
  mu : X → Nat
  ren : Bool
  peel : Bool := false
  fin : Option (List X) := none

def eqS : SL → SL → Prop
  | [], _ => True
  | (j, v) :: t, s => look s j = v ∧ eqS t s
def sbelow (k : Nat) : SL → Bool
  | [] => true
  | (_, v) :: t => match below k v with | true => sbelow k t | false => false
def htake : List AO → Nat → List AO
  | _, 0 => []
  | [], _ + 1 => []
  | a :: l, n + 1 => a :: htake l n
theorem htake_eq : ∀ (l : List AO) (n : Nat), htake l n = l.take n
  | _, 0 => by simp [htake]
  | [], _ + 1 => by simp [htake]
  | a :: l, n + 1 => by simp [htake, htake_eq l n]
/-- The same value, the same row, in other words. -/
def Tell (a b : AV) : Prop := ∀ (E : Env) (v : Value), rel E a v → rel E b v
def TellC (c d : AV) : Prop := ∀ (E : Env) (vs : List Value), relC E c vs → relC E d vs
def RowEq (a b : AV) : Prop := a = b ∨ (isC b = true ∧ cells a = cells b) ∨ TellC a b
theorem RowEq.inl {a b : AV} (h : a = b) : RowEq a b := Or.inl h
theorem RowEq.inr {a b : AV} (h : isC b = true ∧ cells a = cells b) : RowEq a b := Or.inr (Or.inl h)
theorem RowEq.tell {a b : AV} (h : TellC a b) : RowEq a b := Or.inr (Or.inr h)
/-- The same objects (a row may be told in another way). -/
def eqO : List AO → List AO → Prop
  | [], [] => True
  | b :: t', a :: t => (a.ep = b.ep ∧ a.fz = b.fz ∧ RowEq a.c b.c) ∧ eqO t' t
  | _, _ => False
def eqH (k0 : Nat) (h : List AO) (s' : SL) (h' : List AO) : Prop :=
  match Nat.beq (hlen h) (hlen h') with
  | true => eqO h' h
  | false => match Nat.ble k0 (hlen h') with
    | true => eqO h' (htake h (hlen h')) ∧ hbelow (hlen h') (htake h (hlen h')) = true ∧ sbelow (hlen h') s' = true
    | false => False

/-- The same value, the objects' makings counted anew. -/
inductive Same (h h' : List AO) : AV → AV → Prop where
  | refl {v : AV} (hb : below 0 v = true) : Same h h' v v
  | any {v : AV} : Same h h' .any v
  | ms {nil : Bool} {i e e' o n sz : Nat} {a b : AO} (ha : hget h i = some a) (hb : hget h' i = some b) (ea : e = a.ep) (eb : e' = b.ep) : Same h h' (.ms nil i e' o n sz) (.ms nil i e o n sz)
  | ptr {i e e' o : Nat} {a b : AO} (ha : hget h i = some a) (hb : hget h' i = some b) (ea : e = a.ep) (eb : e' = b.ep) : Same h h' (.ptr i e' o) (.ptr i e o)
  | aggr {l m : List AV} (hl : l.length = m.length) (hs : ∀ (i : Nat) (h1 : i < l.length) (h2 : i < m.length), Same h h' l[i] m[i]) : Same h h' (.agg l) (.agg m)
def SameL (h h' : List AO) : List AV → List AV → Prop
  | [], [] => True
  | a :: l, b :: m => Same h h' a b ∧ SameL h h' l m
  | _, _ => False
theorem SameL.spec {h h' : List AO} : ∀ {l m : List AV}, SameL h h' l m → l.length = m.length ∧ ∀ (i : Nat) (h1 : i < l.length) (h2 : i < m.length), Same h h' l[i] m[i]
  | [], [], _ => ⟨rfl, fun i h => by simp at h⟩
  | a :: l, b :: m, hs => by
    obtain ⟨h1, h2⟩ := SameL.spec hs.2
    refine ⟨by simp [h1], fun i k1 k2 => ?_⟩
    cases i with
    | zero => exact hs.1
    | succ i => simp only [List.getElem_cons_succ]; exact h2 i _ _
  | [], _ :: _, hs => hs.elim
  | _ :: _, [], hs => hs.elim
theorem Same.agg {h h' : List AO} {l m : List AV} (hs : SameL h h' l m) : Same h h' (.agg l) (.agg m) := .aggr hs.spec.1 hs.spec.2
/-- The same row. -/
def SameC (h h' : List AO) (c d : AV) : Prop := (c = d ∧ below 0 c = true) ∨ ∃ l m, c = .agg l ∧ d = .agg m ∧ SameL h h' l m
def sameS (h h' : List AO) : SL → SL → Prop
  | [], _ => True
  | (j, v) :: t, s => Same h h' v (look s j) ∧ sameS h h' t s
def sameH (k0 : Nat) (h0 h0' : List AO) : Nat → List AO → List AO → Prop
  | _, [], _ => True
  | _, _ :: _, [] => False
  | i, b :: t', a :: t => (Nat.ble k0 i = true ∨ a.ep = b.ep) ∧ a.fz = b.fz ∧ SameC h0 h0' b.c a.c ∧ sameH k0 h0 h0' (i + 1) t' t

def fits (ren : Bool) (k0 : Nat) (s : SL) (h : List AO) (t : SL × List AO) : Prop :=
  match ren with
  | false => eqS t.1 s ∧ eqH k0 h t.1 t.2
  | true => sameS h t.2 t.1 s ∧ Nat.ble k0 (hlen t.2) = true ∧ sameH k0 h t.2 0 t.2 h
def loopK (k0 : Nat) (L : LI) (x : L.X) (s : SL) (h : List AO) : Prop := ∃ x', L.pre x' ∧ L.mu x' < L.mu x ∧ fits L.ren k0 s h (L.inv x')

/-! ### Results -/
inductive RV where
  | t (n : Nat) | c (a : Nat) (n : Option Nat)
def resv (sp : Sp) (s : SL) (h : List AO) : List RV → Option (Option Prop × List AV)
  | [] => some (none, [])
  | .t n :: r => match resv sp s h r with | some (C, l) => some (C, look s n :: l) | none => none
  | .c a n :: r => match ev sp (look s) h (.load n (.t a)) with
    | .v D A => match resv sp s h r with | some (C, l) => some (both D C, A :: l) | none => none
    | _ => none
def one : List AV → AV
  | [a] => a
  | l => .tup l
def frzR : Nat → List AO → Option (Option Prop × List AO)
  | 0, h => some (none, h)
  | i + 1, h => match frzI h i with
    | some (C, h') => match frzR i h' with
      | some (D, h'') => some (both C D, h'')
      | none => none
    | none => none
def ownF (own : Bool) (kn : Nat) (h : List AO) (l : List AV) : Option (Option Prop × List AV × List AO) :=
  match own with
  | true => some (none, l, h)
  | false => match frzL h l with
    | some (C, l', h') => match frzR kn h' with
      | some (D, h'') => some (both C D, l', h'')
      | none => none
    | none => none
def leafK (sp : Sp) (res : List RV) (own : Bool) (kn : Nat) (K : AV → List AO → Prop) (s : SL) (h : List AO) : Prop :=
  match resv sp s h res with
  | some (C, l) => match ownF own kn h l with
    | some (D, l', h') => match Nat.beq (hlen h') kn with
      | true => conj C (conj D (K (one l') h'))
      | false => conj C (conj D (hbelow kn (htake h' kn) = true ∧ belowL kn l' = true ∧ kn ≤ hlen h' ∧ K (one l') (htake h' kn)))
    | none => False
  | none => False

/-! ### Code -/
/-- A range over a function: how many rounds; the states between them. -/
structure RI where
  n : Nat
  inv : Nat → SL × List AO
  ren : Bool
  pre : Nat → Prop := fun _ => True
structure G where
  sp : Sp
  keep : List Nat
  k0 : Nat
  inv : Nat → SL → List AO → LI
  rinv : RI := { n := 0, inv := fun _ => ([], []), ren := false }
  rf : List Nat := []
  tn : Nat := 0

def xfB : Bool → KT → KT → KT
  | true, k, _, s, h => k s h
  | false, _, k, s, h => k s h
def onB : AV → KT → KT → KT
  | .bool p, k, l, s, h => fork p (k s h) (l s h)
  | _, _, _, _, _ => False
def xfind : List (Nat × KT) → Nat → KT
  | [], _, _, _ => False
  | (j, k) :: r, i, s, h => xfB (Nat.beq j i) k (xfind r i) s h

/-- Where a loop begins: its invariant holds; or, its first round walked by itself, behind that. -/
def startK (k0 : Nat) (L : LI) : KT := fun s h => fits L.ren k0 s h (L.inv L.x0) ∧ L.pre L.x0
def entryK (k0 : Nat) (L : LI) : KT := fun s h => ∃ x, L.pre x ∧ fits L.ren k0 s h (L.inv x)
def peelB : Bool → KT → KT → KT
  | true, a, _, s, h => a s h
  | false, _, b, s, h => b s h
def allX {X : Type} : List X → (X → Prop) → Prop
  | [], _ => True
  | x :: l, f => f x ∧ allX l f
/-- Every round; of a family that is listed, one by one. -/
def finB {X : Type} : Option (List X) → (X → Prop) → (X → Prop) → Prop
  | none, pre, f => ∀ x, pre x → f x
  | some l, pre, f => (∀ x, pre x → x ∈ l) ∧ allX l f
theorem finB_ok {X : Type} {o : Option (List X)} {pre f : X → Prop} (h : finB o pre f) : ∀ x, pre x → f x := by
  cases o with
  | none => exact h
  | some l =>
    obtain ⟨h1, h2⟩ := h
    have key : ∀ {l : List X}, allX l f → ∀ x ∈ l, f x := fun {l} => by
      induction l with
      | nil => intro _ x hx; cases hx
      | cons y l ih =>
        intro h x hx
        rcases List.mem_cons.1 hx with rfl | hx
        · exact h.1
        · exact ih h.2 x hx
    exact fun x hx => key h2 x (h1 x hx)
def onL (Γ : G) : List (Nat × KT) → (Nat → LI) → (KT → List (Nat × KT) → KT → KT) → KT → KT
  | (id, k) :: X, L, body, r, s, h => peelB (L id).peel (body (entryK Γ.k0 (L id)) ((id, k) :: X) r) (startK Γ.k0 (L id)) s h ∧
        finB (L id).fin (L id).pre (fun x => body (loopK Γ.k0 (L id) x) ((id, k) :: X) r ((L id).inv x).1 ((L id).inv x).2)
  | [], _, _, _, _, _ => False

/-- Code of a round: no loop, no range in it. -/
def noR : CC → Bool
  | .seq a b => match noR a with | true => noR b | false => false
  | .cond _ a b => match noR a with | true => noR b | false => false
  | .block _ a => noR a
  | .loop _ => false
  | .rangeF _ _ _ _ => false
  | .skip | .ret | .bad | .reg _ _ | .exit _ => true
def rfind : List Nat → Nat → Bool
  | [], _ => false
  | j :: r, k => match Nat.beq j k with | true => true | false => rfind r k
/-- A row of fields: a number, a slice, a bool, each. -/
def fdShape : List AV → Bool
  | [] => true
  | .int _ :: .sl _ _ _ _ _ :: .bool _ :: r => fdShape r
  | _ => false
def elT (l : List AV) (i : Nat) : AV := match ltake (ldrop l (i * 3)) 3 with | some m => .agg m | none => .any
def allN : Nat → (Nat → Prop) → Prop
  | 0, _ => True
  | n + 1, f => allN n f ∧ f n
def endR (Γ : G) (j : Nat) : KT := fun _ h' => Γ.rinv.pre (j + 1) ∧ fits Γ.rinv.ren Γ.k0 (Γ.rinv.inv j).1 h' (Γ.rinv.inv (j + 1))
def retR (Γ : G) (r : KT) (j : Nat) : KT := fun _ h' => r (Γ.rinv.inv j).1 h'
def failK : KT := fun _ _ => False
def rangeP (Γ : G) (p : Nat) (l : List AV) (ra rb : KT → KT → KT) (k r : KT) (s : SL) (h : List AO) : Prop :=
  (Γ.rinv.pre 0 ∧ fits Γ.rinv.ren Γ.k0 s h (Γ.rinv.inv 0)) ∧ allN Γ.rinv.n (fun j => Γ.rinv.pre j → ra (rb (endR Γ j) (retR Γ r j)) failK ((p, elT l j) :: (Γ.rinv.inv j).1) (Γ.rinv.inv j).2) ∧ (Γ.rinv.pre Γ.rinv.n → k (Γ.rinv.inv Γ.rinv.n).1 (Γ.rinv.inv Γ.rinv.n).2)
def onR (Γ : G) (ok : Bool) (v : AV) (ps : List Nat) (ra rb : KT → KT → KT) (k r : KT) (s : SL) (h : List AO) : Prop :=
  match ok, v, ps with
  | true, .fn F [.ptr i e o], [p] => match rfind Γ.rf F with
    | true => match hget h i with
      | some ob => match Nat.beq ob.ep e with
        | true => match Nat.beq o 0 with
          | true => match ob.c with
            | .agg [.sl false n sz (.agg l) fl] => match Nat.beq sz 3 with
              | true => match Nat.beq n Γ.rinv.n with
                | true => match fdShape l with
                  | true => Nat.blt p Γ.tn = true ∧ Nat.blt 0 n = true ∧ belowL 0 l = true ∧ n * 8 ≤ 140737488351232 ∧ rangeP Γ p l ra rb k r s (hset h i { ob with fz := true })
                  | false => False
                | false => False
              | false => False
            | _ => False
          | false => False
        | false => False
      | none => False
    | false => False
  | _, _, _ => False

def run (Γ : G) : CC → KT → List (Nat × KT) → KT → SL → List AO → Prop
  | .skip, k, _, _, s, h => k s h
  | .ret, _, _, r, s, h => r s h
  | .bad, _, _, _, _, _ => False
  | .reg ops cf, k, _, _, s, h => runOps Γ.sp Γ.keep cf ops k s h
  | .seq a b, k, X, r, s, h => run Γ a (run Γ b k X r) X r s h
  | .cond x a b, k, X, r, s, h => onB (xv (look s) x) (run Γ a k X r) (run Γ b k X r) s h
  | .block id c, k, X, r, s, h => run Γ c k ((id, k) :: X) r s h
  | .exit id, _, X, _, s, h => xfind X id s h
  | .loop c, _, X, r, s, h => onL Γ X (fun id => Γ.inv id s h) (run Γ c) r s h
  | .rangeF x ps a b, k, _, r, s, h => onR Γ (match noR a with | true => noR b | false => false) (xv (look s) x) ps (fun k r => run Γ a k [] r) (fun k r => run Γ b k [] r) k r s h

/-! ### It is enough -/
theorem look_trim (keep : List Nat) (s : SL) (k : Nat) : look (trim keep s) k = look s k ∨ look (trim keep s) k = .any := by
  induction keep with
  | nil => exact .inr rfl
  | cons j r ih =>
    simp only [trim, look_cons]
    split
    · rename_i hb; rw [Nat.eq_of_beq_eq_true hb]; exact .inl rfl
    · exact ih
theorem look_put (d : Option Nat) (A : AV) (s : SL) : look (put d A s) = upd (look s) d A := by
  funext k
  cases d with
  | none => rfl
  | some d =>
    simp only [put, look_cons, upd]
    split
    · rename_i hb; rw [if_pos (Nat.eq_of_beq_eq_true hb).symm]
    · rename_i hb; rw [if_neg]; intro e; subst e; simp at hb
theorem look_known {d : Nat} {s : SL} {A : AV} (h : look s d = A) : look ((d, A) :: s) = look s := by
  funext k
  simp only [look_cons]
  split
  · rename_i hb; rw [← Nat.eq_of_beq_eq_true hb]; exact h.symm
  · rfl

theorem range_afold {sp : Sp} {cs : List CO} : ∀ (n j : Nat) (st), j + n = cs.length → afold sp cs (List.range' j n) st = (cs.drop j).foldlM (fun st co => astep sp co st) st
  | 0, j, st, h => by
    have : cs.drop j = [] := by simp; omega
    rw [this]; rfl
  | n + 1, j, st, h => by
    have hj : j < cs.length := by omega
    rw [List.drop_eq_getElem_cons hj, List.range'_succ]
    simp only [afold, List.getElem?_eq_getElem hj, List.foldlM_cons]
    cases astep sp cs[j] st with
    | none => rfl
    | some s => exact range_afold n (j + 1) s (by omega)

/-- What the executor asks of a region says that its operations go through. -/
theorem runOps_ok {sp : Sp} {keep : List Nat} {cf : List (Nat × Nat)} {k : KT} : ∀ (cs : List CO) (s : SL) (h : List AO), runOps sp keep cf cs k s h → ∃ s' h', cs.foldlM (fun st co => astep sp co st) (look s, h) = some (look s', h') ∧ k (trim keep s') h' ∧ ∀ x ∈ cf, Dis (look s' x.1) (look s' x.2)
  | [], s, h, hr => ⟨s, h, rfl, chkC_ok hr⟩
  | co :: r, s, h, hr => by
    have step : ∀ {s1 : SL}, look s1 = look s → gd (look s) co.g = some true →
        doOp sp co (runOps sp keep cf r k) s1 h → ∃ s' h', (co :: r).foldlM (fun st co => astep sp co st) (look s, h) = some (look s', h') ∧ k (trim keep s') h' ∧ ∀ x ∈ cf, Dis (look s' x.1) (look s' x.2) := fun {s1} e hg hm => by
      simp only [List.foldlM_cons]
      unfold astep
      simp only [hg]
      rw [← e]
      unfold doOp at hm
      unfold onER at hm
      split at hm
      · rename_i C A he
        obtain ⟨hC, hm⟩ := conj_iff.1 hm
        obtain ⟨s', h', q1, q2⟩ := runOps_ok r _ _ hm
        rw [look_put] at q1
        refine ⟨s', h', ?_, q2⟩
        rw [he]; simp only [hC, if_true]; exact q1
      · rename_i C A h1 he
        obtain ⟨hC, hm⟩ := conj_iff.1 hm
        obtain ⟨s', h', q1, q2⟩ := runOps_ok r _ _ hm
        rw [look_put] at q1
        refine ⟨s', h', ?_, q2⟩
        rw [he]; simp only [hC, if_true]; exact q1
      · rename_i C h1 he
        obtain ⟨hC, hm⟩ := conj_iff.1 hm
        obtain ⟨s', h', q1, q2⟩ := runOps_ok r _ _ hm
        rw [look_put] at q1
        refine ⟨s', h', ?_, q2⟩
        rw [he]; simp only [hC, if_true]; exact q1
      · exact hm.elim
    have skip : ∀ {s1 : SL}, look s1 = look s → gd (look s) co.g = some false → runOps sp keep cf r k (put co.d .undef s1) h → ∃ s' h', (co :: r).foldlM (fun st co => astep sp co st) (look s, h) = some (look s', h') ∧ k (trim keep s') h' ∧ ∀ x ∈ cf, Dis (look s' x.1) (look s' x.2) := fun {s1} e hg hm => by
      obtain ⟨s', h', q1, q2⟩ := runOps_ok r _ _ hm
      rw [look_put, e] at q1
      refine ⟨s', h', ?_, q2⟩
      simp only [List.foldlM_cons]
      unfold astep
      simp only [hg]
      exact q1
    unfold runOps at hr
    cases hg : co.g with
    | none => rw [hg] at hr; exact step rfl (by rw [hg]; rfl) hr
    | some db =>
      obtain ⟨d, b⟩ := db
      rw [hg] at hr
      simp only [onGd] at hr
      cases hp : look s d <;> rw [hp] at hr <;> simp only [onG] at hr
      case undef => exact skip rfl (by rw [hg]; simp only [gd, hp]) hr
      case bool p =>
        cases p <;> cases b <;> simp only [fork, ifB] at hr
        · exact step (look_known hp) (by rw [hg]; simp only [gd, hp]; rfl) hr
        · exact skip (look_known hp) (by rw [hg]; simp only [gd, hp]; rfl) hr
        · exact skip (look_known hp) (by rw [hg]; simp only [gd, hp]; rfl) hr
        · exact step (look_known hp) (by rw [hg]; simp only [gd, hp]; rfl) hr

end Go.Abs

namespace Go.Abs
section
variable {P : Program} {ti : Nat → TInf} {B : Base} {E : Env} {h : List AO} {w : World} {a : Act} {N : Nat} {D : List Deferred} {mu pures : List Nat}

theorem St.weaken {g g' : Nat → AV} (s : St B N D E g h a w) (hg : ∀ k, g' k = g k ∨ g' k = .any) : St B N D E g' h a w :=
  ⟨s.mem, fun k => by
    rcases hg k with e | e
    · rw [e]; exact s.slots k
    · rw [e]; simp only [rel], s.size, s.defers⟩

/-! ### A state fits another -/
theorem eqS_look : ∀ {t s : SL}, eqS t s → ∀ k, look t k = look s k ∨ look t k = .any
  | [], _, _, k => .inr rfl
  | (j, v) :: t, s, h, k => by
    simp only [eqS] at h
    simp only [look_cons]
    split
    · rename_i hb; rw [← Nat.eq_of_beq_eq_true hb]; exact .inl h.1.symm
    · exact eqS_look h.2 k
theorem sbelow_look {k : Nat} : ∀ {t : SL}, sbelow k t = true → ∀ j, below k (look t j) = true
  | [], _, j => rfl
  | (i, v) :: t, h, j => by
    simp only [sbelow] at h
    split at h
    · rename_i hv
      simp only [look_cons]
      split
      · exact hv
      · exact sbelow_look h j
    · cases h
theorem sameS_look {h h' : List AO} : ∀ {t s : SL}, sameS h h' t s → ∀ k, Same h h' (look t k) (look s k)
  | [], _, _, k => .any
  | (j, v) :: t, s, hs, k => by
    simp only [sameS] at hs
    simp only [look_cons]
    split
    · rename_i hb; rw [← Nat.eq_of_beq_eq_true hb]; exact hs.1
    · exact sameS_look hs.2 k
theorem sameH_get {k0 : Nat} {h0 h0' : List AO} : ∀ {j : Nat} {t' t : List AO}, sameH k0 h0 h0' j t' t → ∀ {i : Nat} {b : AO}, t'[i]? = some b → ∃ a, t[i]? = some a ∧ (k0 ≤ j + i ∨ a.ep = b.ep) ∧ a.fz = b.fz ∧ SameC h0 h0' b.c a.c
  | _, [], _, _, i, b, hb => by simp at hb
  | _, _ :: _, [], hs, _, _, _ => hs.elim
  | j, b0 :: t', a0 :: t, hs, i, b, hb => by
    simp only [sameH] at hs
    obtain ⟨h1, h2, h3, h4⟩ := hs
    cases i with
    | zero =>
      simp at hb; subst hb
      refine ⟨a0, rfl, ?_, h2, h3⟩
      rcases h1 with h1 | h1
      · exact .inl (Nat.le_of_ble_eq_true h1)
      · exact .inr h1
    | succ i =>
      obtain ⟨a1, q1, q2, q3⟩ := sameH_get h4 (i := i) (by simpa using hb)
      refine ⟨a1, by simpa using q1, ?_, q3⟩
      rcases q2 with q2 | q2
      · left; omega
      · exact .inr q2

/-- The environment with the makings counted anew. -/
def Env.again (E : Env) (h' : List AO) : Env := { p := E.p, ι := fun i => if i < h'.length then E.ι i else none, ep := fun i => match h'[i]? with | some b => b.ep | none => 0 }

theorem Env.cut0_le (h' : List AO) : (E.cut 0).le (E.again h') := ⟨fun _ _ hh => hh, fun i hi => absurd (by simp [Env.cut]) hi⟩

theorem same_rel {h h' : List AO} (hep : ∀ i a, h[i]? = some a → E.ep i = a.ep) {v u : AV} (hs : Same h h' v u) : ∀ x, rel E u x → rel (E.again h') v x := by
  induction hs with
  | refl hb => intro x r; exact rel.mono (Env.cut0_le h') _ _ (rel_cut _ _ hb r)
  | any => intro x _; simp only [rel]
  | ms ha hb ea eb =>
    rename_i nil i e e' o n sz a b
    intro x r
    rw [hget_eq] at ha hb
    simp only [rel] at r ⊢
    split
    · rename_i hn; rw [if_pos hn] at r; exact r
    · rename_i hn; rw [if_neg hn] at r
      obtain ⟨_, r2, ad, cap, r3, r4, r5⟩ := r
      have hlt : i < h'.length := (List.getElem?_eq_some_iff.1 hb).1
      simp only [Env.again, hb, if_pos hlt]
      exact ⟨by omega, r2, ad, cap, r3, r4, fun _ => r5 (by rw [ea, hep i a ha])⟩
  | ptr ha hb ea eb =>
    rename_i i e e' o a b
    intro x r
    rw [hget_eq] at ha hb
    simp only [rel] at r ⊢
    obtain ⟨_, r2, r3, r5⟩ := r
    have hlt : i < h'.length := (List.getElem?_eq_some_iff.1 hb).1
    simp only [Env.again, hb, if_pos hlt]
    exact ⟨by omega, r2, r3, fun _ => r5 (by rw [ea, hep i a ha])⟩
  | aggr hl hs ih =>
    intro x r
    simp only [rel] at r ⊢
    obtain ⟨vs, r1, r2, r3⟩ := r
    obtain ⟨q1, q2⟩ := relL_iff.1 r2
    exact ⟨vs, r1, relL_iff.2 ⟨by omega, fun i k1 k2 => ih i k1 (by omega) _ (q2 i (by omega) k2)⟩, r3⟩

theorem same_relC {h h' : List AO} (hep : ∀ i a, h[i]? = some a → E.ep i = a.ep) {c d : AV} (hs : SameC h h' c d) {vs : List Value} (r : relC E d vs) : relC (E.again h') c vs := by
  rcases hs with ⟨rfl, hb⟩ | ⟨l, m, rfl, rfl, hl⟩
  · exact relC.mono (Env.cut0_le h') _ _ (relC_cut _ _ hb r)
  · obtain ⟨k1, k2⟩ := hl.spec
    simp only [relC] at r ⊢
    obtain ⟨q1, q2⟩ := relL_iff.1 r.1
    exact ⟨relL_iff.2 ⟨by omega, fun i h1 h2 => same_rel hep (k2 i h1 (by omega)) _ (q2 i (by omega) h2)⟩, r.2⟩

theorem Mem.again (m : Mem B E h w) {k0 : Nat} {h' : List AO} (hk : k0 ≤ h'.length) (hb0 : ∀ i, k0 ≤ i → B.E0.ι i = none) (hs : sameH k0 h h' 0 h' h) : Mem B (E.again h') h' w := by
  have hep : ∀ i a, h[i]? = some a → E.ep i = a.ep := fun i a hi => (m.obj i a hi).1
  have get : ∀ {i : Nat} {b : AO}, h'[i]? = some b → ∃ a, h[i]? = some a ∧ (k0 ≤ i ∨ a.ep = b.ep) ∧ a.fz = b.fz ∧ SameC h h' b.c a.c := fun {i b} hb => by
    have := sameH_get hs hb
    simpa using this
  have hι : ∀ {i : Nat}, i < h'.length → (E.again h').ι i = E.ι i := fun {i} hi => by simp [Env.again, hi]
  refine ⟨⟨fun b cs hb => m.le.p b cs hb, fun i hi => ?_⟩, m.size, m.os, m.tape, m.output, m.keeps, m.sat, fun i b hi => ?_, fun i j oi oj b s t hi hj fi fj hb hb' => ?_, m.newP, fun i hi => ?_, fun i hi => hb0 i (by omega)⟩
  · have hlt : i < k0 := by
      rcases Nat.lt_or_ge i k0 with h | h
      · exact h
      · exact absurd (hb0 i h) hi
    obtain ⟨b, hb⟩ : ∃ b, h'[i]? = some b := ⟨h'[i]'(by omega), by simp⟩
    obtain ⟨a', h1, h2, _⟩ := get hb
    have e1 : (E.again h').ep i = E.ep i := by
      simp only [Env.again, hb]
      rcases h2 with h2 | h2
      · omega
      · rw [← h2, hep i a' h1]
    rw [e1, hι (by omega)]
    exact m.le.ι i hi
  · obtain ⟨a', h1, h2, h3, h4⟩ := get hi
    obtain ⟨_, b', s, q1, q2⟩ := m.obj i a' h1
    have hlt : i < h'.length := (List.getElem?_eq_some_iff.1 hi).1
    refine ⟨by simp [Env.again, hi], b', s, by rw [hι hlt]; exact q1, ?_⟩
    rw [h3] at q2
    rcases q2 with ⟨g1, g2⟩ | ⟨g0, vs, g1, g2⟩ | ⟨g0, g1, cur, T, fr, vs, post, g2, g3, g4, g5, g6, g7, g8⟩
    · exact .inl ⟨g1, same_relC hep h4 g2⟩
    · exact .inr (.inl ⟨g0, vs, g1, same_relC hep h4 g2⟩)
    · exact .inr (.inr ⟨g0, g1, cur, T, fr, vs, post, g2, g3, g4, g5, same_relC hep h4 g6, g7, g8⟩)
  · obtain ⟨ai, i1, _, i3, _⟩ := get hi
    obtain ⟨aj, j1, _, j3, _⟩ := get hj
    rw [hι (List.getElem?_eq_some_iff.1 hi).1] at hb
    rw [hι (List.getElem?_eq_some_iff.1 hj).1] at hb'
    exact m.inj i j ai aj b s t i1 j1 (i3.trans fi) (j3.trans fj) hb hb'
  · have : ¬ i < h'.length := by omega
    simp only [Env.again, if_neg this]
    rw [List.getElem?_eq_none_iff.2 hi]
    simp

theorem eqO_get : ∀ {h' h : List AO}, eqO h' h → h'.length = h.length ∧ ∀ (i : Nat) (b : AO), h'[i]? = some b → ∃ a, h[i]? = some a ∧ a.ep = b.ep ∧ a.fz = b.fz ∧ RowEq a.c b.c
  | [], [], _ => ⟨rfl, fun i b hb => by simp at hb⟩
  | b0 :: t', a0 :: t, hq => by
    obtain ⟨h1, h2⟩ := hq
    obtain ⟨k1, k2⟩ := eqO_get h2
    refine ⟨by simp [k1], fun i b hb => ?_⟩
    cases i with
    | zero => simp at hb; subst hb; exact ⟨a0, rfl, h1⟩
    | succ i => exact k2 i b (by simpa using hb)
  | [], _ :: _, hq => hq.elim
  | _ :: _, [], hq => hq.elim
theorem Mem.recell (m : Mem B E h w) {h' : List AO} (hq : eqO h' h) : Mem B E h' w := by
  obtain ⟨hl, get⟩ := eqO_get hq
  refine ⟨m.le, m.size, m.os, m.tape, m.output, m.keeps, m.sat, fun i b hi => ?_, fun i j oi oj b s t hi hj fi fj => ?_, m.newP, fun i hi => m.fresh i (by omega), fun i hi => m.base i (by omega)⟩
  · obtain ⟨a', h1, h2, h3, h4⟩ := get i b hi
    obtain ⟨q1, b', s, q2, q3⟩ := m.obj i a' h1
    have tr : ∀ vs, relC E a'.c vs → relC E b.c vs := fun vs hvs => by
      rcases h4 with h4 | ⟨h4, h5⟩ | h4
      · rw [← h4]; exact hvs
      · obtain ⟨_, k2, k3⟩ := relC_iff.1 hvs
        exact relC_iff.2 ⟨h4, by rw [← h5]; exact k2, k3⟩
      · exact h4 E vs hvs
    refine ⟨q1.trans h2, b', s, q2, ?_⟩
    rw [h3] at q3
    rcases q3 with ⟨g1, g2⟩ | ⟨g0, vs, g1, g2⟩ | ⟨g0, g1, cur, T, fr, vs, post, g2, g3, g4, g5, g6, g7⟩
    · exact .inl ⟨g1, tr _ g2⟩
    · exact .inr (.inl ⟨g0, vs, g1, tr _ g2⟩)
    · exact .inr (.inr ⟨g0, g1, cur, T, fr, vs, post, g2, g3, g4, g5, tr _ g6, g7⟩)
  · obtain ⟨ai, i1, _, i3, _⟩ := get i oi hi
    obtain ⟨aj, j1, _, j3, _⟩ := get j oj hj
    exact m.inj i j ai aj b s t i1 j1 (i3.trans fi) (j3.trans fj)

theorem fits_ok {k0 : Nat} (hb0 : ∀ i, k0 ≤ i → B.E0.ι i = none) {ren : Bool} {s : SL} {t : SL × List AO} (hf : fits ren k0 s h t) (st : St B N D E (look s) h a w) : ∃ E', St B N D E' (look t.1) t.2 a w ∧ E'.p = E.p := by
  unfold fits at hf
  split at hf
  · obtain ⟨h1, h2⟩ := hf
    have st' := st.weaken (eqS_look h1)
    unfold eqH at h2
    split at h2
    · exact ⟨E, ⟨st'.mem.recell h2, st'.slots, st'.size, st'.defers⟩, rfl⟩
    · split at h2
      · rename_i hk
        obtain ⟨q1, q2, q3⟩ := h2
        have hk' := Nat.le_of_ble_eq_true hk
        rw [htake_eq] at q1 q2
        have m := (st'.mem.drop (k := hlen t.2) q2 (fun i hi => hb0 i (by omega))).recell q1
        exact ⟨_, ⟨m, fun j => rel_cut _ _ (sbelow_look q3 j) (st'.slots j), st'.size, st'.defers⟩, rfl⟩
      · exact h2.elim
  · obtain ⟨h1, h2, h3⟩ := hf
    have hk : k0 ≤ t.2.length := by rw [← hlen_eq]; exact Nat.le_of_ble_eq_true h2
    exact ⟨_, ⟨st.mem.again hk hb0 h3, fun j => same_rel (fun i b hi => (st.mem.obj i b hi).1) (sameS_look h1 j) _ (st.slots j), st.size, st.defers⟩, rfl⟩

/-! ### Code -/
theorem least (p : Nat → Prop) (h : ∃ n, p n) : ∃ n, p n ∧ ∀ m, p m → n ≤ m := by
  obtain ⟨n, hn⟩ := h
  induction n using Nat.strongRecOn with
  | _ n ih =>
    by_cases hm : ∃ m, m < n ∧ p m
    · obtain ⟨m, h1, h2⟩ := hm; exact ih m h1 h2
    · exact ⟨n, hn, fun m hp => by
        rcases Nat.lt_or_ge m n with h | h
        · exact absurd ⟨m, h, hp⟩ hm
        · exact h⟩

variable {n : Nat} {ro : Option Nat} {Γ : G}

/-- A loop of which the first round is walked by itself. -/
theorem loop_peel {F : Fence} {P : Program} {n : Nat} {c : Code} {Q : Exit → Act → World → Prop} {a : Act} {w : World} (I : Act → World → Prop) (μ : Act → World → Nat) (h₀ : c.wpIn F n P (Exit.then I Q) a w)
    (round : ∀ a w, I a w → c.wpIn F n P (Exit.then (fun a' w' => I a' w' ∧ μ a' w' < μ a w) Q) a w) : (Code.loop c).wpIn F n P Q a w := by
  intro b k cs hro hb hr
  have key : ∀ j a w, μ a w = j → I a w →
      ∃ e a' w', Q e a' w' ∧ ArrivesIn (Machine.fenced P F) P (lone (b.atR a (.code c :: .inLoop c :: k)) cs w) b k cs e a' w' := by
    intro j
    induction j using Nat.strongRecOn with
    | _ j ih =>
      intro a w hn hI
      obtain ⟨e, a₁, w₁, hq, harr⟩ := round a w hI b (.inLoop c :: k) cs hro hb hr
      cases e with
      | normal =>
        obtain ⟨hI₁, hlt⟩ := hq
        obtain ⟨e₂, a₂, w₂, hq₂, harr₂⟩ := ih (μ a₁ w₁) (hn ▸ hlt) a₁ w₁ rfl hI₁
        exact ⟨e₂, a₂, w₂, hq₂, .of_steps (StepsIn.trans harr (.one (fenced_calm hb hr rfl) stepR_inLoop)) harr₂⟩
      | exit id => exact ⟨_, a₁, w₁, hq, .pass (x := .inLoop c) rfl (fun _ _ => .inl (by simp)) harr⟩
      | goto l => exact ⟨_, a₁, w₁, hq, .pass (x := .inLoop c) rfl (fun _ _ => .inl (by simp)) harr⟩
      | ret => exact ⟨_, a₁, w₁, hq, .pass (x := .inLoop c) rfl (fun _ _ => .inl (by simp)) harr⟩
      | panic ch => exact ⟨_, a₁, w₁, hq, .pass (x := .inLoop c) rfl (fun _ _ => .inl (by simp)) harr⟩
      | outgrown => exact ⟨_, a₁, w₁, hq, .pass (x := .inLoop c) rfl (fun _ _ => .inl (by simp)) harr⟩
  obtain ⟨e, a₁, w₁, hq, harr⟩ := h₀ b (.inLoop c :: k) cs hro hb hr
  have h1 : StepsIn (Machine.fenced P F) P (lone (b.atR a (.code (.loop c) :: k)) cs w) (lone (b.atR a (.code c :: .inLoop c :: k)) cs w) := .one (fenced_calm hb hr rfl) stepR_loop
  cases e with
  | normal =>
    obtain ⟨e₂, a₂, w₂, hq₂, harr₂⟩ := key _ a₁ w₁ rfl hq
    exact ⟨e₂, a₂, w₂, hq₂, .of_steps (StepsIn.trans h1 (StepsIn.trans harr (.one (fenced_calm hb hr rfl) stepR_inLoop))) harr₂⟩
  | exit id => exact ⟨_, a₁, w₁, hq, .of_steps h1 (.pass (x := .inLoop c) rfl (fun _ _ => .inl (by simp)) harr)⟩
  | goto l => exact ⟨_, a₁, w₁, hq, .of_steps h1 (.pass (x := .inLoop c) rfl (fun _ _ => .inl (by simp)) harr)⟩
  | ret => exact ⟨_, a₁, w₁, hq, .of_steps h1 (.pass (x := .inLoop c) rfl (fun _ _ => .inl (by simp)) harr)⟩
  | panic ch => exact ⟨_, a₁, w₁, hq, .of_steps h1 (.pass (x := .inLoop c) rfl (fun _ _ => .inl (by simp)) harr)⟩
  | outgrown => exact ⟨_, a₁, w₁, hq, .of_steps h1 (.pass (x := .inLoop c) rfl (fun _ _ => .inl (by simp)) harr)⟩
theorem loop_rule {c : Code} {Q : Exit → Act → World → Prop} {X : Type} (J : X → Act → World → Prop) (mu : X → Nat) (h0 : (∃ x, J x a w) ∨ c.wpIn (Fw ro) n P (Exit.then (fun a' w' => ∃ x, J x a' w') Q) a w)
    (round : ∀ x a w, J x a w → c.wpIn (Fw ro) n P (Exit.then (fun a' w' => ∃ x', J x' a' w' ∧ mu x' < mu x) Q) a w) : (Code.loop c).wpIn (Fw ro) n P Q a w := by
  classical
  let p : Act → World → Nat → Prop := fun a w k => ∃ x, J x a w ∧ mu x = k
  let M : Act → World → Nat := fun a w => if hh : ∃ k, p a w k then Classical.choose (least _ hh) else 0
  have hM : ∀ a w x, J x a w → ∃ x', J x' a w ∧ mu x' = M a w ∧ M a w ≤ mu x := fun a w x hx => by
    have hh : ∃ k, p a w k := ⟨mu x, x, hx, rfl⟩
    have hs := Classical.choose_spec (least _ hh)
    have e : M a w = Classical.choose (least _ hh) := dif_pos hh
    obtain ⟨x', h1, h2⟩ := hs.1
    exact ⟨x', h1, by rw [e]; exact h2, by rw [e]; exact hs.2 _ ⟨x, hx, rfl⟩⟩
  have round' : ∀ a w, (∃ x, J x a w) → c.wpIn (Fw ro) n P (Exit.then (fun a' w' => (∃ x, J x a' w') ∧ M a' w' < M a w) Q) a w := fun a w hI => ?_
  · rcases h0 with h0 | h0
    · exact wpIn_loop (fun a w => ∃ x, J x a w) M h0 round'
    · exact loop_peel (fun a w => ∃ x, J x a w) M h0 round'
  obtain ⟨x, hx⟩ := hI
  obtain ⟨x1, h1, h2, _⟩ := hM a w x hx
  refine wpIn_mono (round x1 a w h1) fun e a' w' hq => ?_
  cases e with
  | normal =>
    obtain ⟨x', k1, k2⟩ := hq
    obtain ⟨_, _, _, k3⟩ := hM a' w' x' k1
    exact ⟨⟨x', k1⟩, by omega⟩
  | _ => exact hq

/-- A round's code: no loop in it. -/
theorem run_ok0 (hti : TIok P ti) (hsp : SpOK P Γ.sp) (hm : P.follows .mixedOrders = true) : ∀ (c : Code) (Q : Exit → Act → World → Prop) (k : KT) (X : List (Nat × KT)) (r : KT) (s : SL) (h : List AO) (E : Env) (a : Act) (w : World),
    noR (comp ti mu pures N c) = true → run Γ (comp ti mu pures N c) k X r s h → St B N D E (look s) h a w → (∀ s h E a w, k s h → St B N D E (look s) h a w → Q .normal a w) → (∀ id s h E a w, xfind X id s h → St B N D E (look s) h a w → Q (.exit id) a w) →
    (∀ s h E a w, r s h → St B N D E (look s) h a w → Q .ret a w) → c.wpIn (Fw ro) n P Q a w
  | .skip, Q, k, X, r, s, h, E, a, w, _, hr, st, hk, _, _ => by
    simp only [comp, run] at hr
    exact wpIn_skip (hk _ _ _ _ _ hr st)
  | .ret, Q, k, X, r, s, h, E, a, w, _, hr, st, _, _, hrr => by
    simp only [comp, run] at hr
    exact wpIn_ret (hrr _ _ _ _ _ hr st)
  | .exit id, Q, k, X, r, s, h, E, a, w, _, hr, st, _, hX, _ => by
    simp only [comp, run] at hr
    exact wpIn_exit (hX _ _ _ _ _ _ hr st)
  | .region id ops draw, Q, k, X, r, s, h, E, a, w, _, hr, st, hk, _, _ => by
    simp only [comp] at hr
    split at hr
    · rename_i l hl
      have hlen := (compOps_get hl).1
      have main : ∀ {cf : List (Nat × Nat)}, (draw = true → orderOK ops l cf = true) → runOps Γ.sp Γ.keep cf l k s h → (Code.region id ops draw).wpIn (Fw ro) n P Q a w := fun {cf} hok hr => by
        obtain ⟨s', h', q1, q2, q3⟩ := runOps_ok l s h hr
        refine region_ok hti hsp hm hl hok st (gF := look s') (hF := h') ?_ q3 fun E' a' w' st' => hk _ _ E' a' w' q2 (st'.weaken (look_trim _ _))
        have := range_afold (sp := Γ.sp) (cs := l) ops.size 0 (look s, h) (by rw [hlen]; simp)
        rw [List.range_eq_range', this]
        simpa using q1
      cases draw with
      | false =>
        simp only [run] at hr
        exact main (fun e => by cases e) hr
      | true =>
        simp only at hr
        split at hr
        · rename_i hok
          simp only [run] at hr
          exact main (fun _ => hok) hr
        · simp only [run] at hr
    · simp only [run] at hr
  | .seq x y, Q, k, X, r, s, h, E, a, w, hn, hr, st, hk, hX, hrr => by
    simp only [comp, run] at hr
    simp only [comp, noR] at hn
    split at hn
    · rename_i hx
      refine wpIn_seq (run_ok0 hti hsp hm x _ _ X r s h E a w hx hr st (fun s h E a w hh st => ?_) (fun id s h E a w hh st => hX id s h E a w hh st) (fun s h E a w hh st => hrr s h E a w hh st))
      exact run_ok0 hti hsp hm y Q k X r s h E a w hn hh st hk hX hrr
    · cases hn
  | .cond x c d, Q, k, X, r, s, h, E, a, w, hn, hr, st, hk, hX, hrr => by
    simp only [comp, run] at hr
    simp only [comp, noR] at hn
    split at hn
    · rename_i hnc
      have hx := rel_x st.slots x
      cases hp : xv (look s) (xof x) <;> rw [hp] at hr hx <;> simp only [onB] at hr
      rename_i p
      simp only [rel] at hx
      refine wpIn_cond hx ?_
      cases p
      · exact run_ok0 hti hsp hm d Q k X r s h E a w hn hr st hk hX hrr
      · exact run_ok0 hti hsp hm c Q k X r s h E a w hnc hr st hk hX hrr
    · cases hn
  | .block id c, Q, k, X, r, s, h, E, a, w, hn, hr, st, hk, hX, hrr => by
    simp only [comp, run] at hr
    simp only [comp, noR] at hn
    refine wpIn_block (run_ok0 hti hsp hm c _ k ((id, k) :: X) r s h E a w hn hr st (fun s h E a w hh st => hk s h E a w hh st) (fun id' s h E a w hh st => ?_) (fun s h E a w hh st => hrr s h E a w hh st))
    simp only [xfind] at hh
    simp only [Exit.inBlock]
    cases hb : Nat.beq id id' <;> rw [hb] at hh <;> simp only [xfB] at hh
    · rw [if_neg (fun e => by subst e; simp at hb)]
      exact hX id' s h E a w hh st
    · rw [if_pos (Nat.eq_of_beq_eq_true hb).symm]; exact hk s h E a w hh st
  | .loop c, Q, k, X, r, s, h, E, a, w, hn, hr, st, hk, hX, hrr => by simp only [comp, noR] at hn; cases hn
  | .rangeFunc _ _ _ _, Q, k, X, r, s, h, E, a, w, hn, hr, st, _, _, _ => by simp only [comp, noR] at hn; cases hn
  | .scope _, Q, k, X, r, s, h, E, a, w, _, hr, st, _, _, _ => by simp only [comp, run] at hr
  | .label _, Q, k, X, r, s, h, E, a, w, _, hr, st, _, _, _ => by simp only [comp, run] at hr
  | .goto _, Q, k, X, r, s, h, E, a, w, _, hr, st, _, _, _ => by simp only [comp, run] at hr
  | .refuse _, Q, k, X, r, s, h, E, a, w, _, hr, st, _, _, _ => by simp only [comp, run] at hr

end
end Go.Abs

namespace Go.Abs
open Go.RowKit
section
variable {P : Program} {ti : Nat → TInf} {B : Base} {E : Env} {h : List AO} {w : World} {a : Act} {N : Nat} {D : List Deferred} {mu pures : List Nat} {Γ : G} {n : Nat}

/-- The iterator of slices.Values over fields: what it does with whatever loop. -/
def FdIter (P : Program) (F : Nat) : Prop := ∀ (l Bs b off len cap : Nat), len * 8 ≤ 140737488351232 → ∀ (zs : Nat → Int) (sa : Nat → Option Addr) (sn sc : Nat → Nat) (rs : Nat → Bool) (J Jx : Nat → World → Prop),
    (∀ i W W', J i W → W.grownBy W' none → J i W') →
    (∀ i W, J i W → W.cell? ⟨Bs, 0, none⟩ = some (.slice (some ⟨b, off, none⟩) len cap) ∧ ∀ j, j < len → W.cell? ⟨b, off + j * 3, none⟩ = some (.int .i64 (zs j)) ∧ W.cell? ⟨b, off + j * 3 + 1, none⟩ = some (.slice (sa j) (sn j) (sc j)) ∧ W.cell? ⟨b, off + j * 3 + 2, none⟩ = some (.bool (rs j))) →
    (∀ i W, J i W → i < len → YieldAt (Fw none) 0 P l #[.agg #[.int .i64 (zs i), .slice (sa i) (sn i) (sc i), .bool (rs i)]] W fun e W' =>
      (e = .returned (.bool true) ∧ J (i + 1) W') ∨ (e = .returned (.bool false) ∧ Jx (i + 1) W')) →
    ∀ W, J 0 W → CallsIn (Fw none) 0 P F #[.func (.yield l) #[] #[], .pointer (some ⟨Bs, 0, none⟩)] W fun e W' => (∃ v, e = .returned v) ∧ (J len W' ∨ ∃ i, i ≤ len ∧ Jx i W')

def mark (d : Nat) : Deferred := { target := .collected d, args := #[] }
/-- A base that has come out of another, blocks for deferred calls (none is deferred) laid since. -/
structure Ext (B : Base) (D : List Deferred) (B' : Base) (D' : List Deferred) : Prop where
  mem : ∀ E h w, Mem B' E h w → Mem B E h w
  e0 : B'.E0 = B.E0
  d : ∃ ds : List Nat, D' = ds.map mark ++ D ∧ ds.Nodup ∧ ∀ d ∈ ds, B.w0.heap.size ≤ d ∧ d < B'.w0.heap.size ∧ ¬ B'.M d ∧ B'.w0.heap[d]? = some (.deferred (some []))
theorem Ext.refl : Ext B D B D := ⟨fun _ _ _ h => h, rfl, [], rfl, List.nodup_nil, fun d h => by cases h⟩

def Sx (B : Base) (N : Nat) (D : List Deferred) (s : SL) (h : List AO) (a : Act) (w : World) : Prop := ∃ B' D' E, Ext B D B' D' ∧ St B' N D' E (look s) h a w
theorem Sx.fits {k0 : Nat} (hb0 : ∀ i, k0 ≤ i → B.E0.ι i = none) {ren : Bool} {s : SL} {t : SL × List AO} (st : Sx B N D s h a w) (hf : fits ren k0 s h t) : Sx B N D t.1 t.2 a w := by
  obtain ⟨B', D', E, hx, st⟩ := st
  obtain ⟨E', st', _⟩ := fits_ok (by rw [hx.e0]; exact hb0) hf st
  exact ⟨B', D', E', hx, st'⟩

/-- Blocks that are no cells may turn. -/
theorem Mem.turn (m : Mem B E h w) {w' : World} {row : Option Nat} (hg : w.grownBy w' row) (hr : ∀ r, row = some r → B.w0.heap.size ≤ r ∧ ∃ o : Obj, w.heap[r]? = some o ∧ o.isCells = false) : Mem B E h w' := by
  have same : ∀ {b : Nat} {cs : Array Value} {T : TypeId} {fr : Nat × Nat}, w.heap[b]? = some (.cells cs T fr) → w'.heap[b]? = some (.cells cs T fr) := fun {b cs T fr} hb =>
    (hg.block b (Array.getElem?_eq_some_iff.1 hb).1 (fun e => by
      obtain ⟨_, o, ho, hc⟩ := hr b e.symm
      rw [hb] at ho; cases ho; cases hc)).trans hb
  refine ⟨m.le, Nat.le_trans m.size hg.size, hg.os.trans m.os, hg.tape.trans m.tape, hg.output.trans m.output, fun b hb hM => ?_, fun b cs hb => ?_, fun i ob hi => ?_, m.inj, m.newP, m.fresh, m.base⟩
  · refine (hg.block b (by have := m.size; omega) (fun e => ?_)).trans (m.keeps b hb hM)
    have := (hr b e.symm).1; omega
  · obtain ⟨T, fr, h1⟩ := m.sat b cs hb
    exact ⟨T, fr, same h1⟩
  · obtain ⟨h1, b, s, h2, h3⟩ := m.obj i ob hi
    refine ⟨h1, b, s, h2, ?_⟩
    rcases h3 with h3 | h3 | ⟨hf, hs, cur, T, fr, vs, post, g1, g2⟩
    · exact .inl h3
    · exact .inr (.inl h3)
    · exact .inr (.inr ⟨hf, hs, cur, T, fr, vs, post, same g1, g2⟩)

/-- A block that is no cells is kept from here on. -/
theorem Mem.guard (m : Mem B E h w) {d : Nat} {o : Obj} (hd : B.w0.heap.size ≤ d) (ho : w.heap[d]? = some o) (hc : o.isCells = false) :
    Mem ⟨w, B.E0, fun b => b ≠ d ∧ (B.w0.heap.size ≤ b ∨ B.M b)⟩ E h w ∧ ∀ E' h' w', Mem ⟨w, B.E0, fun b => b ≠ d ∧ (B.w0.heap.size ≤ b ∨ B.M b)⟩ E' h' w' → Mem B E' h' w' := by
  constructor
  · refine ⟨m.le, Nat.le_refl _, rfl, rfl, rfl, fun _ _ _ => rfl, m.sat, fun i ob hi => ?_, m.inj, fun b hb => ?_, m.fresh, m.base⟩
    · obtain ⟨h1, b, s, h2, h3⟩ := m.obj i ob hi
      refine ⟨h1, b, s, h2, ?_⟩
      rcases h3 with h3 | h3 | ⟨hf, hs, cur, T, fr, vs, post, g1, g2, g3, g4, g5, g6, g7⟩
      · exact .inl h3
      · exact .inr (.inl h3)
      · exact .inr (.inr ⟨hf, hs, cur, T, fr, vs, post, g1, g2, g3, g4, g5, g6, .inr ⟨fun e => (by subst e; rw [g1] at ho; cases ho; cases hc), g7⟩⟩)
    · rcases m.newP b hb with h1 | h1
      · exact .inl h1
      · refine .inr (.inr ⟨fun e => ?_, h1⟩)
        cases hp : E.p b with
        | none => exact hb hp
        | some cs =>
          obtain ⟨T, fr, h2⟩ := m.sat b cs hp
          subst e; rw [h2] at ho; cases ho; cases hc
  · intro E' h' w' m'
    refine ⟨m'.le, Nat.le_trans m.size m'.size, m'.os.trans m.os, m'.tape.trans m.tape, m'.output.trans m.output, fun b hb hM => ?_, m'.sat, fun i ob hi => ?_, m'.inj, fun b hb => ?_, m'.fresh, m'.base⟩
    · refine (m'.keeps b (by have := m.size; show b < w.heap.size; omega) (fun hh => ?_)).trans (m.keeps b hb hM)
      rcases hh.2 with h1 | h1
      · omega
      · exact hM h1
    · obtain ⟨h1, b, s, h2, h3⟩ := m'.obj i ob hi
      refine ⟨h1, b, s, h2, ?_⟩
      rcases h3 with h3 | h3 | ⟨hf, hs, cur, T, fr, vs, post, g1, g2, g3, g4, g5, g6, g7⟩
      · exact .inl h3
      · exact .inr (.inl h3)
      · refine .inr (.inr ⟨hf, hs, cur, T, fr, vs, post, g1, g2, g3, g4, g5, g6, ?_⟩)
        rcases g7 with g7 | g7
        · left; have := m.size; have : w.heap.size ≤ b := g7; omega
        · exact g7.2
    · rcases m'.newP b hb with h1 | h1 | h1
      · exact .inl h1
      · right; left; have := m.size; have : w.heap.size ≤ b := h1; omega
      · exact .inr h1.2

/-- What is no cells lies as it lay where a walk began. -/
theorem Mem.keepsFrom {w0 : World} {E0 : Env} {h0 : List AO} (m0 : Mem B E0 h0 w0) (m : Mem ⟨w0, E0, Mof E0 h0⟩ E h w) (b : Nat) : KeepsFrom b w0 w :=
  ⟨m.size, fun k o _ hk ho => by
    have hlt : k < w0.heap.size := (Array.getElem?_eq_some_iff.1 hk).1
    refine (m.keeps k hlt (fun hh => ?_)).trans hk
    obtain ⟨i, ob, s, h1, h2, h3, h4⟩ := hh
    obtain ⟨_, b', s', k1, k2⟩ := m0.obj i ob h1
    rw [h3] at k1; cases k1
    rcases k2 with ⟨k2, _⟩ | ⟨k2, _⟩ | ⟨_, _, cur, T, fr, vs, post, g1, _⟩
    · omega
    · rw [h2] at k2; cases k2
    · rw [g1] at hk; cases hk; cases ho⟩
theorem Mem.longer {w0 : World} {E0 : Env} {h0 : List AO} (m0 : Mem B E0 h0 w0) (m : Mem ⟨w0, E0, Mof E0 h0⟩ E h w) : h0.length ≤ h.length := by
  rcases Nat.lt_or_ge h.length h0.length with hlt | hge
  · exfalso
    obtain ⟨_, b, s, h2, _⟩ := m0.obj h.length h0[h.length] (List.getElem?_eq_getElem hlt)
    have h3 : E.ι h.length ≠ none := by
      rcases m.le.ι h.length (by rw [h2]; simp) with ⟨_, e⟩ | ⟨_, e⟩
      · rw [e]; show E0.ι _ ≠ none; rw [h2]; simp
      · exact e
    exact h3 (m.fresh h.length (Nat.le_refl _)).1
  · exact hge

theorem fd_elems {E : Env} : ∀ {l : List AV} {vs : List Value}, fdShape l = true → relL E l vs → ∀ j, j * 3 + 3 ≤ l.length → ∃ z a n c r, vs[j * 3]? = some (intv z) ∧ vs[j * 3 + 1]? = some (.slice a n c) ∧ vs[j * 3 + 2]? = some (.bool r) ∧ rel E (elT l j) (.agg #[intv z, .slice a n c, .bool r]) ∧ (belowL 0 l = true → below 0 (elT l j) = true)
  | [], vs, _, _, j, hj => by simp at hj
  | [_], vs, hs, _, j, hj => by simp at hj
  | [_, _], vs, hs, _, j, hj => by simp at hj
  | x :: y :: u :: l, vs, hs, hr, j, hj => by
    unfold fdShape at hs
    split at hs
    · rename_i heq; cases heq
    rotate_left
    · cases hs
    rename_i z nl sn sz c fl b l' heq
    cases heq
    simp only [relL] at hr
    obtain ⟨v1, us, rfl, h1, v2, us2, rfl, h2, v3, us3, rfl, h3, hl⟩ := hr
    have hv2 : ∃ a n cc, v2 = .slice a n cc := by
      simp only [rel] at h2
      split at h2
      · exact ⟨_, _, _, h2.1⟩
      · obtain ⟨a, cap, vs, e, _⟩ := h2; exact ⟨_, _, _, e⟩
    obtain ⟨a, n, cc, rfl⟩ := hv2
    simp only [rel] at h1 h3
    subst h1 h3
    cases j with
    | zero =>
      have e0 : elT (.int z :: .sl nl sn sz c fl :: .bool b :: l) 0 = .agg [.int z, .sl nl sn sz c fl, .bool b] := by simp only [elT, Nat.zero_mul, ldrop, ltake]
      refine ⟨z, a, n, cc, b, rfl, rfl, rfl, ?_, fun hb => ?_⟩
      · rw [e0]
        simp only [rel, relL]
        refine ⟨_, rfl, ⟨_, _, rfl, rfl, _, _, rfl, ?_, _, _, rfl, rfl, rfl⟩, ?_⟩
        · simp only [rel] at h2; exact h2
        · intro u hu
          simp at hu
          rcases hu with rfl | rfl | rfl <;> rfl
      · rw [e0]
        simp only [belowL] at hb
        simp only [below, belowL]
        split at hb
        · split at hb
          · rename_i h1 h2; simp only [below] at h2; rw [h2]
          · cases hb
        · cases hb
    | succ j =>
      obtain ⟨z', a', n', c', r', q1, q2, q3, q4, q5⟩ := fd_elems (l := l) hs hl j (by simp at hj; omega)
      refine ⟨z', a', n', c', r', ?_, ?_, ?_, ?_, ?_⟩
      · rw [show (j + 1) * 3 = j * 3 + 1 + 1 + 1 by omega]; simpa using q1
      · rw [show (j + 1) * 3 + 1 = j * 3 + 1 + 1 + 1 + 1 by omega]; simpa using q2
      · rw [show (j + 1) * 3 + 2 = j * 3 + 2 + 1 + 1 + 1 by omega]; simpa using q3
      · have : elT (.int z :: .sl nl sn sz c fl :: .bool b :: l) (j + 1) = elT l j := by
          unfold elT
          rw [ldrop_eq, ldrop_eq, show (j + 1) * 3 = j * 3 + 1 + 1 + 1 by omega]
          rfl
        rw [this]; exact q4
      · have : elT (.int z :: .sl nl sn sz c fl :: .bool b :: l) (j + 1) = elT l j := by
          unfold elT
          rw [ldrop_eq, ldrop_eq, show (j + 1) * 3 = j * 3 + 1 + 1 + 1 by omega]
          rfl
        rw [this]
        intro hb
        refine q5 ?_
        simp only [belowL] at hb
        split at hb
        · split at hb
          · split at hb
            · exact hb
            · cases hb
          · cases hb
        · cases hb
theorem allN_get : ∀ {n : Nat} {f : Nat → Prop}, allN n f → ∀ j, j < n → f j
  | 0, _, _, j, h => by omega
  | n + 1, f, hf, j, h => by
    by_cases e : j = n
    · rw [e]; exact hf.2
    · exact allN_get hf.1 j (by omega)

theorem range_ok (hti : TIok P ti) (hsp : SpOK P Γ.sp) (hm : P.follows .mixedOrders = true) (hb0 : ∀ i, Γ.k0 ≤ i → B.E0.ι i = none) (htn : Γ.tn ≤ N) (hrf : ∀ F, rfind Γ.rf F = true → FdIter P F ∧ ∀ args w, (callFunc F args).run P w = .ok (.enter F args) w)
    {f : Operand} {ps : Array Tmp} {x y : Code} {Q : Exit → Act → World → Prop} {k r : KT} {s : SL}
    (hr : onR Γ (match noR (comp ti mu pures N x) with | true => noR (comp ti mu pures N y) | false => false) (xv (look s) (xof f)) ps.toList (fun k r => run Γ (comp ti mu pures N x) k [] r) (fun k r => run Γ (comp ti mu pures N y) k [] r) k r s h)
    (st : Sx B N D s h a w) (hk : ∀ s h a w, k s h → Sx B N D s h a w → Q .normal a w) (hrr : ∀ s h a w, r s h → Sx B N D s h a w → Q .ret a w) : (Code.rangeFunc f ps x y).wpIn (Fw none) n P Q a w := by
  obtain ⟨B', D', E, hx, st⟩ := st
  unfold onR at hr
  split at hr
  · rename_i F i e o p hok hv hps
    have hnr : noR (comp ti mu pures N x) = true ∧ noR (comp ti mu pures N y) = true := by
      split at hok
      · rename_i h1; exact ⟨h1, hok⟩
      · cases hok
    split at hr
    · rename_i hrfF
      split at hr
      · rename_i ob hob
        split at hr
        · rename_i hep
          split at hr
          · rename_i ho0
            split at hr
            · rename_i nn sz l fl hc
              split at hr
              · rename_i hsz
                split at hr
                · rename_i hn
                  split at hr
                  · rename_i hsh
                    obtain ⟨hp, hpos, hbl, hreach, hr⟩ := hr
                    obtain rfl := Nat.eq_of_beq_eq_true ho0
                    obtain rfl := Nat.eq_of_beq_eq_true hsz
                    have hn := Nat.eq_of_beq_eq_true hn
                    have he := Nat.eq_of_beq_eq_true hep
                    have hpos : 0 < nn := by simpa using hpos
                    have hpN : p < N := by have : p < Γ.tn := by simpa using hp
                                           omega
                    have hob' : h[i]? = some ob := by rw [← hget_eq]; exact hob
                    -- the value that is ranged over
                    have hfv := rel_x st.slots f
                    rw [hv] at hfv
                    simp only [rel, relL] at hfv
                    obtain ⟨cvs, hfv, cv, cus, hcv, hptr, hcus⟩ := hfv
                    subst hcus
                    obtain ⟨_, _, _, hptr⟩ := hptr
                    obtain ⟨Bs, sB, hι, hcvp⟩ := hptr (by rw [← he]; exact (st.mem.obj i ob hob').1.symm)
                    subst hcvp
                    have hcv' : cvs = #[.pointer (some ⟨Bs, 0, none⟩)] := by apply Array.ext'; rw [hcv]
                    subst hcv'
                    -- it is frozen
                    obtain ⟨E1, le1, m1, eι, eep⟩ := st.mem.freeze hob'
                    have st1 : St B' N D' E1 (look s) (hset h i { ob with fz := true }) a w := ⟨by rw [hset_eq]; exact m1, fun k => rel.mono le1 _ _ (st.slots k), st.size, st.defers⟩
                    have hlt : i < h.length := (List.getElem?_eq_some_iff.1 hob').1
                    obtain ⟨_, b1, s1, k1, k2⟩ := m1.obj i { ob with fz := true } (by rw [List.getElem?_set_self hlt])
                    rw [eι, hι] at k1
                    cases k1
                    have hrow : ∃ b off cap vs', E1.at_ Bs 0 [.slice (some ⟨b, off, none⟩) nn cap] ∧ E1.at_ b off vs' ∧ vs'.length = nn * 3 ∧ relL E1 l vs' := by
                      rcases k2 with ⟨_, k2⟩ | ⟨_, vs, k2, k3⟩ | ⟨k2, _⟩
                      · rw [hc] at k2; simp only [relC, relL] at k2; obtain ⟨⟨_, _, hh, _⟩, _⟩ := k2; cases hh
                      · rw [hc] at k3
                        simp only [relC, relL] at k3
                        obtain ⟨⟨u, us, rfl, hu, rfl⟩, _⟩ := k3
                        simp only [rel, Bool.false_eq_true, if_false] at hu
                        obtain ⟨ad, cap, vs', rfl, _, _, h4, h5, h6, _⟩ := hu
                        rcases h4 with h4 | ⟨b, off, rfl, h4⟩
                        · rw [h4] at h5; simp at h5; omega
                        · exact ⟨b, off, cap, vs', k2, h4, h5, h6⟩
                      · cases k2
                    obtain ⟨b, off, cap, vs', hat1, hat2, hvl, hvr⟩ := hrow
                    have hll : l.length = nn * 3 := by rw [← relL_length hvr, hvl]
                    have hel := fun j (hj : j < nn) => fd_elems hsh hvr j (by omega)
                    have hch : ∃ el : Nat → Int × Option Addr × Nat × Nat × Bool, ∀ j, j < nn → vs'[j * 3]? = some (intv (el j).1) ∧ vs'[j * 3 + 1]? = some (.slice (el j).2.1 (el j).2.2.1 (el j).2.2.2.1) ∧ vs'[j * 3 + 2]? = some (.bool (el j).2.2.2.2) ∧
                        rel E1 (elT l j) (.agg #[intv (el j).1, .slice (el j).2.1 (el j).2.2.1 (el j).2.2.2.1, .bool (el j).2.2.2.2]) := by
                      have := fun j : Nat => (show ∃ t : Int × Option Addr × Nat × Nat × Bool, j < nn → vs'[j * 3]? = some (intv t.1) ∧ vs'[j * 3 + 1]? = some (.slice t.2.1 t.2.2.1 t.2.2.2.1) ∧ vs'[j * 3 + 2]? = some (.bool t.2.2.2.2) ∧
                        rel E1 (elT l j) (.agg #[intv t.1, .slice t.2.1 t.2.2.1 t.2.2.2.1, .bool t.2.2.2.2]) from by
                          by_cases hj : j < nn
                          · obtain ⟨z, a, n, c, r, g1, g2, g3, g4, _⟩ := hel j hj
                            have q := And.intro g1 (And.intro g2 (And.intro g3 g4))
                            exact ⟨(z, a, n, c, r), fun _ => q⟩
                          · exact ⟨(0, none, 0, 0, false), fun h => absurd h hj⟩)
                      exact ⟨fun j => Classical.choose (this j), fun j => Classical.choose_spec (this j)⟩
                    obtain ⟨el, hel⟩ := hch
                    obtain ⟨r1, r2, r3⟩ := hr
                    have hb0' : ∀ i, Γ.k0 ≤ i → B'.E0.ι i = none := by rw [hx.e0]; exact hb0
                    obtain ⟨hit, hent⟩ := hrf F hrfF
                    have hlb : ∀ j, j < nn → below 0 (elT l j) = true := fun j hj => by
                      obtain ⟨_, _, _, _, _, _, _, _, _, q⟩ := fd_elems hsh hvr j (by omega)
                      exact q hbl
                    let v : Nat → Value := fun j => .agg #[intv (el j).1, .slice (el j).2.1 (el j).2.2.1 (el j).2.2.2.1, .bool (el j).2.2.2.2]
                    let I : Nat → World → Prop := fun j W => Γ.rinv.pre j ∧ ∃ E', St B' N D' E' (look (Γ.rinv.inv j).1) (Γ.rinv.inv j).2 a W ∧ ∀ b cs, E1.p b = some cs → E'.p b = some cs
                    let Ix : World → Prop := fun W => ∃ s' h' E', r s' h' ∧ St B' N D' E' (look s') h' a W
                    have hBw : B'.w0.heap.size ≤ w.heap.size := st.mem.size
                    have ext : ∀ {Dd : Nat} {W : World} {E' : Env} {h' : List AO}, w.heap.size ≤ Dd → Mem B' E' h' W → W.heap[Dd]? = some (.deferred (some [])) →
                        (∀ E2 h2 w2, Mem ⟨W, B'.E0, fun b => b ≠ Dd ∧ (B'.w0.heap.size ≤ b ∨ B'.M b)⟩ E2 h2 w2 → Mem B' E2 h2 w2) → Ext B D ⟨W, B'.E0, fun b => b ≠ Dd ∧ (B'.w0.heap.size ≤ b ∨ B'.M b)⟩ (mark Dd :: D') := fun {Dd W E' h'} hD m hK hback => by
                      obtain ⟨ds, e, nd, hds⟩ := hx.d
                      have hBs : B.w0.heap.size ≤ w.heap.size := (hx.mem _ _ _ st.mem).size
                      refine ⟨fun E2 h2 w2 m2 => hx.mem _ _ _ (hback _ _ _ m2), hx.e0, Dd :: ds, by rw [e]; rfl, List.nodup_cons.2 ⟨fun hm => ?_, nd⟩, fun d hd => ?_⟩
                      · have := (hds _ hm).2.1; omega
                      · rcases List.mem_cons.1 hd with rfl | hd
                        · exact ⟨by omega, (Array.getElem?_eq_some_iff.1 hK).1, fun hh => hh.1 rfl, hK⟩
                        · obtain ⟨d1, d2, d3, d4⟩ := hds d hd
                          refine ⟨d1, by have := m.size; show d < W.heap.size; omega, fun hh => ?_, (m.keeps d d2 d3).trans d4⟩
                          rcases hh.2 with h1 | h1
                          · omega
                          · exact d3 h1
                    have hI0 : I 0 w := by
                      obtain ⟨E', q1, q2⟩ := fits_ok hb0' r1.2 st1
                      exact ⟨r1.1, E', q1, fun b cs hb => by rw [q2]; exact hb⟩
                    have psz : ps = #[p] := by apply Array.ext'; rw [hps]
                    subst psz
                    refine wpIn_range hfv hent nn v rfl I Ix ?_ ?_ hI0 ?_ ?_ ?_ ?_
                    · rintro j W W' row ⟨hpj, E', q1, q2⟩ hg hrow
                      exact ⟨hpj, E', ⟨q1.mem.turn hg fun r e => ⟨by have := (hrow r e).1; omega, (hrow r e).2⟩, q1.slots, q1.size, q1.defers⟩, q2⟩
                    · rintro W W' row ⟨s', h', E', q1, q2⟩ hg hrow
                      exact ⟨s', h', E', q1, q2.mem.turn hg fun r e => ⟨by have := (hrow r e).1; omega, (hrow r e).2⟩, q2.slots, q2.size, q2.defers⟩
                    · intro lp J Jx W hJ hJI hY hJ0
                      refine hit lp Bs b off nn cap hreach (fun j => (el j).1) (fun j => (el j).2.1) (fun j => (el j).2.2.1) (fun j => (el j).2.2.2.1) (fun j => (el j).2.2.2.2) J Jx hJ ?_ hY W hJ0
                      intro j W hj
                      obtain ⟨_, E', q1, q2⟩ := hJI j W hj
                      have mono : ∀ {bb o : Nat} {vs : List Value}, E1.at_ bb o vs → E'.at_ bb o vs := fun {bb o vs} ⟨cs, pre, post, h1, h2, h3⟩ => ⟨cs, pre, post, q2 _ _ h1, h2, h3⟩
                      refine ⟨q1.mem.at_cell (mono hat1) (k := 0) rfl, fun j' hj' => ?_⟩
                      obtain ⟨g1, g2, g3, _⟩ := hel j' hj'
                      exact ⟨q1.mem.at_cell (mono hat2) g1, by have := q1.mem.at_cell (mono hat2) g2; rwa [← Nat.add_assoc] at this, by have := q1.mem.at_cell (mono hat2) g3; rwa [← Nat.add_assoc] at this⟩
                    · rintro lp j W hlp hrec ⟨hpj, E', q1, q2⟩ hj
                      have hrun := allN_get r2 j (by rw [← hn]; exact hj) hpj
                      have hv1 : rel E' (elT l j) (v j) := by
                        have := rel_cut (k := 0) _ _ (hlb j hj) (hel j hj).2.2.2
                        refine rel.mono (⟨q2, fun i hi => absurd (by simp [Env.cut]) hi⟩ : (E1.cut 0).le E') _ _ this
                      have stA0 : St ⟨W, E', Mof E' (Γ.rinv.inv j).2⟩ N [] E' (look (Γ.rinv.inv j).1) (Γ.rinv.inv j).2 { tmps := a.tmps, defers := [] } W := ⟨q1.mem.enter, q1.slots, q1.size, rfl⟩
                      have stA := stA0.put (Env.le.refl E') stA0.mem (d := some p) (A := elT l j) (v := v j) (fun x hx => by cases hx; exact hpN) hv1
                      rw [← look_put] at stA
                      have etm : ((#[p].zip #[v j]).foldl (fun t (x : Tmp × Value) => t.setIfInBounds x.1 x.2) a.tmps) = a.tmps.setIfInBounds p (v j) := by simp
                      refine run_ok0 hti hsp hm x _ _ [] failK _ _ E' _ W hnr.1 hrun (by rw [etm]; exact stA) (fun s1 h1 E2 a1 W1 hh st2 => ?_) (fun id s h E a w hh st => hh.elim) (fun s h E a w hh st => hh.elim)
                      have mB := q1.mem.back st2.mem (q1.mem.longer st2.mem)
                      refine ⟨q1.mem.keepsFrom st2.mem _, ⟨hpj, E', q1, q2⟩, fun W2 hg hnc => ?_⟩
                      have mB2 := mB.turn hg fun r e => by cases e; exact ⟨by omega, hnc⟩
                      have stB : St ⟨W2, E2, Mof E2 h1⟩ N [] E2 (look s1) h1 a1 W2 := ⟨mB2.enter, st2.slots, st2.size, st2.defers⟩
                      have fin : ∀ {s3 : SL} {h3 : List AO} {E3 : Env} {a3 : Act} {W3 : World}, St ⟨W2, E2, Mof E2 h1⟩ N [] E3 (look s3) h3 a3 W3 → St B' N D' E3 (look (Γ.rinv.inv j).1) h3 a W3 := fun {s3 h3 E3 a3 W3} st3 =>
                        ⟨mB2.back st3.mem (mB2.longer st3.mem), fun k => rel.mono (Env.le.trans st2.mem.le st3.mem.le) _ _ (q1.slots k), q1.size, q1.defers⟩
                      refine run_ok0 hti hsp hm y _ _ [] _ _ _ E2 _ W2 hnr.2 hh stB (fun s3 h3 E3 a3 W3 hh3 st3 => ?_) (fun id s h E a w hh st => hh.elim) (fun s3 h3 E3 a3 W3 hh3 st3 => ?_)
                      · obtain ⟨E4, g1, g2⟩ := fits_ok hb0' hh3.2 (fin st3)
                        exact ⟨mB2.keepsFrom st3.mem _, hh3.1, E4, g1, fun b cs hb => by rw [g2]; exact st3.mem.le.p _ _ (st2.mem.le.p _ _ (q2 b cs hb))⟩
                      · exact ⟨mB2.keepsFrom st3.mem _, _, _, E3, hh3, fin st3⟩
                    · rintro Dd W hD ⟨hpn, E', q1, _⟩ hK
                      rw [hn] at q1 hpn
                      obtain ⟨g1, g2⟩ := q1.mem.guard (by omega) hK rfl
                      refine hk _ _ _ _ (r3 hpn) ⟨_, mark Dd :: D', E', ext (W := W) hD q1.mem hK g2, g1, q1.slots, q1.size, ?_⟩
                      rw [← q1.defers]; rfl
                    · rintro Dd W hD ⟨s', h', E', q1, q2⟩ hK
                      obtain ⟨g1, g2⟩ := q2.mem.guard (by omega) hK rfl
                      refine wpIn_ret (hrr _ _ _ _ q1 ⟨_, mark Dd :: D', E', ext (W := W) hD q2.mem hK g2, g1, q2.slots, q2.size, ?_⟩)
                      rw [← q2.defers]; rfl
                  · exact hr.elim
                · exact hr.elim
              · exact hr.elim
            · exact hr.elim
          · exact hr.elim
        · exact hr.elim
      · exact hr.elim
    · exact hr.elim
  · exact hr.elim

theorem run_ok (hti : TIok P ti) (hsp : SpOK P Γ.sp) (hm : P.follows .mixedOrders = true) (hb0 : ∀ i, Γ.k0 ≤ i → B.E0.ι i = none) (htn : Γ.tn ≤ N) (hrf : ∀ F, rfind Γ.rf F = true → FdIter P F ∧ ∀ args w, (callFunc F args).run P w = .ok (.enter F args) w) :
    ∀ (c : Code) (Q : Exit → Act → World → Prop) (k : KT) (X : List (Nat × KT)) (r : KT) (s : SL) (h : List AO) (a : Act) (w : World),
    run Γ (comp ti mu pures N c) k X r s h → Sx B N D s h a w → (∀ s h a w, k s h → Sx B N D s h a w → Q .normal a w) → (∀ id s h a w, xfind X id s h → Sx B N D s h a w → Q (.exit id) a w) →
    (∀ s h a w, r s h → Sx B N D s h a w → Q .ret a w) → c.wpIn (Fw none) n P Q a w
  | .skip, Q, k, X, r, s, h, a, w, hr, st, hk, _, _ => by
    simp only [comp, run] at hr
    exact wpIn_skip (hk _ _ _ _ hr st)
  | .ret, Q, k, X, r, s, h, a, w, hr, st, _, _, hrr => by
    simp only [comp, run] at hr
    exact wpIn_ret (hrr _ _ _ _ hr st)
  | .exit id, Q, k, X, r, s, h, a, w, hr, st, _, hX, _ => by
    simp only [comp, run] at hr
    exact wpIn_exit (hX _ _ _ _ _ hr st)
  | .region id ops draw, Q, k, X, r, s, h, a, w, hr, st, hk, _, _ => by
    simp only [comp] at hr
    split at hr
    · rename_i l hl
      have hlen := (compOps_get hl).1
      have main : ∀ {cf : List (Nat × Nat)}, (draw = true → orderOK ops l cf = true) → runOps Γ.sp Γ.keep cf l k s h → (Code.region id ops draw).wpIn (Fw none) n P Q a w := fun {cf} hok hr => by
        obtain ⟨s', h', q1, q2, q3⟩ := runOps_ok l s h hr
        obtain ⟨B', D', E, hx, st⟩ := st
        refine region_ok hti hsp hm hl hok st (gF := look s') (hF := h') ?_ q3 fun E' a' w' st' => hk _ _ a' w' q2 ⟨B', D', E', hx, st'.weaken (look_trim _ _)⟩
        have := range_afold (sp := Γ.sp) (cs := l) ops.size 0 (look s, h) (by rw [hlen]; simp)
        rw [List.range_eq_range', this]
        simpa using q1
      cases draw with
      | false =>
        simp only [run] at hr
        exact main (fun e => by cases e) hr
      | true =>
        simp only at hr
        split at hr
        · rename_i hok
          simp only [run] at hr
          exact main (fun _ => hok) hr
        · simp only [run] at hr
    · simp only [run] at hr
  | .seq x y, Q, k, X, r, s, h, a, w, hr, st, hk, hX, hrr => by
    simp only [comp, run] at hr
    refine wpIn_seq (run_ok hti hsp hm hb0 htn hrf x _ _ X r s h a w hr st (fun s h a w hh st => ?_) (fun id s h a w hh st => hX id s h a w hh st) (fun s h a w hh st => hrr s h a w hh st))
    exact run_ok hti hsp hm hb0 htn hrf y Q k X r s h a w hh st hk hX hrr
  | .cond x c d, Q, k, X, r, s, h, a, w, hr, st, hk, hX, hrr => by
    simp only [comp, run] at hr
    obtain ⟨B', D', E, hxt, st'⟩ := id st
    have hx := rel_x st'.slots x
    cases hp : xv (look s) (xof x) <;> rw [hp] at hr hx <;> simp only [onB] at hr
    rename_i p
    simp only [rel] at hx
    refine wpIn_cond hx ?_
    cases p
    · exact run_ok hti hsp hm hb0 htn hrf d Q k X r s h a w hr st hk hX hrr
    · exact run_ok hti hsp hm hb0 htn hrf c Q k X r s h a w hr st hk hX hrr
  | .block id c, Q, k, X, r, s, h, a, w, hr, st, hk, hX, hrr => by
    simp only [comp, run] at hr
    refine wpIn_block (run_ok hti hsp hm hb0 htn hrf c _ k ((id, k) :: X) r s h a w hr st (fun s h a w hh st => hk s h a w hh st) (fun id' s h a w hh st => ?_) (fun s h a w hh st => hrr s h a w hh st))
    simp only [xfind] at hh
    simp only [Exit.inBlock]
    cases hb : Nat.beq id id' <;> rw [hb] at hh <;> simp only [xfB] at hh
    · rw [if_neg (fun e => by subst e; simp at hb)]
      exact hX id' s h a w hh st
    · rw [if_pos (Nat.eq_of_beq_eq_true hb).symm]; exact hk s h a w hh st
  | .loop c, Q, k, X, r, s, h, a, w, hr, st, hk, hX, hrr => by
    simp only [comp, run] at hr
    cases X with
    | nil => simp only [onL] at hr
    | cons x X' =>
      obtain ⟨id, k'⟩ := x
      simp only [onL] at hr
      generalize Γ.inv id s h = L at hr
      obtain ⟨h1, h3⟩ := hr
      have h3 := finB_ok h3
      have h0 : (∃ x, L.pre x ∧ Sx B N D (L.inv x).1 (L.inv x).2 a w) ∨ c.wpIn (Fw none) n P (Exit.then (fun a w => ∃ x, L.pre x ∧ Sx B N D (L.inv x).1 (L.inv x).2 a w) Q) a w := by
        cases hpl : L.peel with
        | false =>
          rw [hpl] at h1
          simp only [peelB, startK] at h1
          exact .inl ⟨L.x0, h1.2, st.fits hb0 h1.1⟩
        | true =>
          rw [hpl] at h1
          simp only [peelB] at h1
          refine .inr (run_ok hti hsp hm hb0 htn hrf c _ _ _ r _ _ a w h1 st (fun s h a w hh st => ?_) (fun id s h a w hh st => hX id s h a w hh st) (fun s h a w hh st => hrr s h a w hh st))
          obtain ⟨x', q1, q3⟩ := hh
          exact ⟨x', q1, st.fits hb0 q3⟩
      refine loop_rule (fun x a w => L.pre x ∧ Sx B N D (L.inv x).1 (L.inv x).2 a w) L.mu h0 fun x a w hx => ?_
      obtain ⟨hp, st'⟩ := hx
      refine run_ok hti hsp hm hb0 htn hrf c _ _ _ r _ _ a w (h3 x hp) st' (fun s h a w hh st => ?_) (fun id s h a w hh st => hX id s h a w hh st) (fun s h a w hh st => hrr s h a w hh st)
      obtain ⟨x', q1, q2, q3⟩ := hh
      exact ⟨x', ⟨q1, st.fits hb0 q3⟩, q2⟩
  | .rangeFunc f ps x y, Q, k, X, r, s, h, a, w, hr, st, hk, hX, hrr => by
    simp only [comp, run] at hr
    exact range_ok hti hsp hm hb0 htn hrf hr st (fun s h a w hh st => hk s h a w hh st) (fun s h a w hh st => hrr s h a w hh st)
  | .scope _, Q, k, X, r, s, h, a, w, hr, st, _, _, _ => by simp only [comp, run] at hr
  | .label _, Q, k, X, r, s, h, a, w, hr, st, _, _, _ => by simp only [comp, run] at hr
  | .goto _, Q, k, X, r, s, h, a, w, hr, st, _, _, _ => by simp only [comp, run] at hr
  | .refuse _, Q, k, X, r, s, h, a, w, hr, st, _, _, _ => by simp only [comp, run] at hr

end
end Go.Abs

namespace Go.Abs
open Go.RowKit
section
variable {P : Program} {ti : Nat → TInf} {B : Base} {E : Env} {h : List AO} {w : World} {a : Act} {N : Nat} {D : List Deferred} {mu pures : List Nat} {sp : Sp}

def rvOf (ti : Nat → TInf) : ResultVar → RV
  | .tmp t => .t t
  | .cell a T => .c a (lsz (ti T))
def rvOK (ti : Nat → TInf) : List ResultVar → Bool
  | [] => true
  | .tmp _ :: r => rvOK ti r
  | .cell _ T :: r => match (ti T).d with | .other => false | _ => rvOK ti r

def resOne (tmps : Array Value) : ResultVar → Sem Value
  | .tmp t => pure (tmps.getD t undef)
  | .cell a t => do loadVar t (← asAddr (tmps.getD a undef))

theorem resv_ok (m : Mem B E h w) (hti : TIok P ti) {s : SL} (hs : ∀ k, rel E (look s k) (a.tmps.getD k undef)) : ∀ (rs : List ResultVar), rvOK ti rs = true → ∀ {C : Option Prop} {l : List AV}, resv sp s h (rs.map (rvOf ti)) = some (C, l) → holds C →
    ∃ vs, (rs.mapM (resOne a.tmps)).run P w = .ok vs w ∧ relL E l vs
  | [], _, C, l, hr, hC => by
    simp only [List.map_nil, resv, Option.some.injEq, Prod.mk.injEq] at hr
    obtain ⟨rfl, rfl⟩ := hr
    exact ⟨[], by simp, by simp only [relL]⟩
  | .tmp t :: rs, hok, C, l, hr, hC => by
    simp only [List.map_cons, rvOf, resv] at hr
    split at hr
    · rename_i C' l' hr'
      cases hr
      obtain ⟨vs, h1, h2⟩ := resv_ok m hti hs rs (by simpa only [rvOK] using hok) hr' hC
      refine ⟨a.tmps.getD t undef :: vs, ?_, by simp only [relL]; exact ⟨_, _, rfl, hs t, h2⟩⟩
      simp [List.mapM_cons, resOne, h1]
    · cases hr
  | .cell p T :: rs, hok, C, l, hr, hC => by
    simp only [rvOK] at hok
    split at hok
    · cases hok
    · rename_i hd
      simp only [List.map_cons, rvOf, resv] at hr
      split at hr
      · rename_i D' A hev
        split at hr
        · rename_i C' l' hr'
          cases hr
          obtain ⟨c1, c2⟩ := holds_both.1 hC
          obtain ⟨vs, h1, h2⟩ := resv_ok m hti hs rs hok hr' c2
          have e1 : ev sp (look s) h (.load (lsz (ti T)) (.t p)) = ev sp (look s) h (.load (lsz (ti T)) (.c (look s p))) := by cases lsz (ti T) <;> rfl
          obtain ⟨r, k1, k2⟩ := load_ok (P := P) (T := T) m hti (fun hh => hd hh) (hs p) (e1 ▸ hev) c1
          refine ⟨r :: vs, ?_, by simp only [relL]; exact ⟨_, _, rfl, k2, h2⟩⟩
          have hptr : ∃ ad, a.tmps.getD p undef = .pointer (some ad) := by
            have hp := hs p
            cases hl : look s p <;> rw [hl] at hp e1 <;> rw [e1] at hev <;> (cases hz : lsz (ti T) <;> rw [hz] at hev <;> simp only [ev, xv, reduceCtorEq] at hev) <;> simp only [rel] at hp
            · obtain ⟨_, _, ⟨ad, hp⟩, _⟩ := hp; exact ⟨ad, hp⟩
            · obtain ⟨_, _, ⟨ad, hp⟩, _⟩ := hp; exact ⟨ad, hp⟩
            · obtain ⟨_, _, _, hp, _⟩ := hp; exact ⟨_, hp⟩
            · obtain ⟨_, _, _, hp, _⟩ := hp; exact ⟨_, hp⟩
          obtain ⟨ad, had⟩ := hptr
          rw [had] at k1
          simp only [Instr.loadAt, Instr.sureAddr, Sem.run_bind, Sem.run_pure, Result.andThen_ok] at k1
          simp [List.mapM_cons, resOne, had, asAddr, k1, h1]
        · cases hr
      · cases hr

theorem results_list {fn : Func} {rs : List ResultVar} (hr : fn.results = rs.toArray) (tmps : Array Value) : results fn tmps = (do
    let vs ← rs.mapM (resOne tmps)
    pure (if h : vs.toArray.size = 1 then vs.toArray[0] else .tuple vs.toArray)) := by
  unfold results
  rw [hr]
  change (do let vs ← rs.toArray.mapM (resOne tmps); pure (if h : vs.size = 1 then vs[0] else .tuple vs)) = _
  rw [List.mapM_toArray, map_eq_pure_bind]
  simp

theorem rel_one {l : List AV} {vs : List Value} (hl : relL E l vs) : rel E (one l) (if h : vs.toArray.size = 1 then vs.toArray[0] else .tuple vs.toArray) := by
  have hlen := relL_length hl
  match l, hl with
  | [], hl => simp only [relL] at hl; subst hl; simp only [one, rel]; exact ⟨#[], rfl, by simp only [relL]⟩
  | [x], hl =>
    simp only [relL] at hl
    obtain ⟨u, us, rfl, h1, rfl⟩ := hl
    simpa [one] using h1
  | x :: y :: l, hl =>
    have : ¬ vs.toArray.size = 1 := by simp at hlen ⊢; omega
    rw [dif_neg this]
    simp only [one, rel]
    exact ⟨_, rfl, by simpa using hl⟩

theorem belowL_relL {k : Nat} {l : List AV} {vs : List Value} (hb : belowL k l = true) (r : relL E l vs) : relL (E.cut k) l vs := relL_cut _ _ hb r

theorem frzR_ok : ∀ (n : Nat) {E : Env} {h : List AO} {C : Option Prop} {h' : List AO}, Mem B E h w → frzR n h = some (C, h') → holds C → ∃ E', E.le E' ∧ Mem B E' h' w
  | 0, E, h, C, h', m, hf, _ => by cases hf; exact ⟨E, Env.le.refl E, m⟩
  | i + 1, E, h, C, h', m, hf, hC => by
    simp only [frzR] at hf
    split at hf
    · rename_i C1 h1 h2
      split at hf
      · rename_i C2 h3 h4
        cases hf
        obtain ⟨c1, c2⟩ := holds_both.1 hC
        obtain ⟨E1, le1, m1⟩ := frzI_ok m h2 c1
        obtain ⟨E2, le2, m2⟩ := frzR_ok i m1 h4 c2
        exact ⟨E2, le1.trans le2, m2⟩
      · cases hf
    · cases hf

/-- A function's result. -/
theorem leaf_ok (hti : TIok P ti) {fn : Func} {rs : List ResultVar} (hr : fn.results = rs.toArray) (hrv : rvOK ti rs = true) {own : Bool} {kn k0 : Nat} (hkn : k0 ≤ kn) (hb0 : ∀ i, k0 ≤ i → B.E0.ι i = none) {K : AV → List AO → Prop} {s : SL}
    (hl : leafK sp (rs.map (rvOf ti)) own kn K s h) (st : St B N D E (look s) h a w) :
    ∃ v r h' E', (results fn a.tmps).run P w = .ok v w ∧ K r h' ∧ Mem B E' h' w ∧ rel E' r v ∧ h'.length = kn := by
  unfold leafK at hl
  split at hl
  · rename_i C l hrs
    split at hl
    · rename_i D' l' h1 hfz
      have main : holds C → holds D' → ∃ vs E1, (results fn a.tmps).run P w = .ok (if h : vs.toArray.size = 1 then vs.toArray[0] else .tuple vs.toArray) w ∧ Mem B E1 h1 w ∧ relL E1 l' vs := fun hC hD => by
        obtain ⟨vs, k1, k2⟩ := resv_ok st.mem hti st.slots rs hrv hrs hC
        have hrun : (results fn a.tmps).run P w = .ok (if h : vs.toArray.size = 1 then vs.toArray[0] else .tuple vs.toArray) w := by
          rw [results_list hr]; simp only [Sem.run_bind, k1, Result.andThen_ok, Sem.run_pure]
        cases own with
        | true => cases hfz; exact ⟨vs, E, hrun, st.mem, k2⟩
        | false =>
          simp only [ownF] at hfz
          split at hfz
          · rename_i D1 l1 h2 hz1
            split at hfz
            · rename_i D2 h3 hz2
              cases hfz
              obtain ⟨d1, d2⟩ := holds_both.1 hD
              obtain ⟨E1, _, q2, q3⟩ := frzL_ok l h E st.mem hz1 d1 vs k2
              obtain ⟨E2, le2, m2⟩ := frzR_ok kn q2 hz2 d2
              exact ⟨vs, E2, hrun, m2, relL.mono le2 _ _ q3⟩
            · cases hfz
          · cases hfz
      split at hl
      · rename_i hb
        obtain ⟨hC, hl⟩ := conj_iff.1 hl
        obtain ⟨hD, hl⟩ := conj_iff.1 hl
        obtain ⟨vs, E1, q1, q2, q3⟩ := main hC hD
        exact ⟨_, _, h1, E1, q1, hl, q2, rel_one q3, by rw [← hlen_eq]; exact Nat.eq_of_beq_eq_true hb⟩
      · obtain ⟨hC, hl⟩ := conj_iff.1 hl
        obtain ⟨hD, hl⟩ := conj_iff.1 hl
        obtain ⟨b1, b2, b3, hl⟩ := hl
        obtain ⟨vs, E1, q1, q2, q3⟩ := main hC hD
        rw [htake_eq] at b1 hl
        rw [hlen_eq] at b3
        exact ⟨_, _, _, _, q1, hl, q2.drop b1 (fun i hi => hb0 i (by omega)), rel_one (belowL_relL b2 q3), by simp; omega⟩
    · exact hl.elim
  · exact hl.elim

def argS : Nat → List AV → SL
  | _, [] => []
  | i, A :: l => (i, A) :: argS (i + 1) l
theorem argS_look {vs : List Value} : ∀ {l : List AV} {i : Nat}, relL E l (vs.drop i) → ∀ k, rel E (look (argS i l) k) (vs.toArray.getD k undef)
  | [], i, _, k => by simp only [argS, look, rel]
  | A :: l, i, hr, k => by
    simp only [relL] at hr
    obtain ⟨u, us, h1, h2, h3⟩ := hr
    simp only [argS, look_cons]
    split
    · rename_i hb
      have e := Nat.eq_of_beq_eq_true hb
      subst e
      have : vs[i]? = some u := by
        have : (vs.drop i)[0]? = some u := by rw [h1]; rfl
        simpa using this
      simp only [Array.getD_eq_getD_getElem?, List.getElem?_toArray, this, Option.getD_some]
      exact h2
    · refine argS_look (i := i + 1) ?_ k
      have : vs.drop (i + 1) = us := by
        rw [← List.drop_drop, h1]; rfl
      rw [this]; exact h3

/-- On the way out: the marks of ranges. -/
theorem leaves_ok (hti : TIok P ti) {fn : Func} {rs : List ResultVar} (hr : fn.results = rs.toArray) (hrv : rvOK ti rs = true) {own : Bool} {kn k0 : Nat} (hkn : k0 ≤ kn) (hb0 : ∀ i, k0 ≤ i → B.E0.ι i = none) {K : AV → List AO → Prop} {s : SL} {R : Ending → World → Prop} {n : Nat}
    (hl : leafK sp (rs.map (rvOf ti)) own kn K s h) (hR : ∀ v r h' E' w', K r h' → Mem B E' h' w' → rel E' r v → h'.length = kn → R (.returned v) w') (hslots : ∀ k, rel E (look s k) (a.tmps.getD k undef)) (hsz : a.tmps.size = N) :
    ∀ (ds : List Nat) (w : World), ds.Nodup → (∀ d ∈ ds, B.w0.heap.size ≤ d ∧ w.heap[d]? = some (.deferred (some []))) → Mem B E h w → LeavesInM (Fw none) n P fn a.tmps R (ds.map mark) .returning w
  | [], w, _, _, m => by
    obtain ⟨v, r, h', E', q1, q2, q3, q4, q5⟩ := leaf_ok (a := { tmps := a.tmps, defers := [] }) (N := N) hti hr hrv hkn hb0 hl ⟨m, hslots, hsz, rfl⟩
    exact ⟨v, q1, hR v r h' E' w q2 q3 q4 q5⟩
  | d :: ds, w, hnd, hds, m => by
    obtain ⟨h1, h2⟩ := hds d (by simp)
    have hnd' := List.nodup_cons.1 hnd
    refine ⟨by simp, .inl ⟨d, _, rfl, run_takeDeferred h2, leaves_ok hti hr hrv hkn hb0 hl hR hslots hsz ds _ hnd'.2 (fun d' hd' => ⟨(hds d' (by simp [hd'])).1, ?_⟩) (m.turn (grownBy_putObj' _ _ _) fun r e => by cases e; exact ⟨h1, _, h2, rfl⟩)⟩⟩
    rw [World.putObj_heap_other (fun e => by subst e; exact hnd'.1 hd')]
    exact (hds d' (by simp [hd'])).2

/-- A function's contract. -/
theorem acalls_of_run (hti : TIok P ti) {Γ : G} (hsp : SpOK P Γ.sp) (hm : P.follows .mixedOrders = true) {f : FuncId} {fn : Func} {c : Code} {rs : List ResultVar} (hf : P.funcs[f]? = some fn) (hb : fn.body = some c) (hr : fn.results = rs.toArray) (hrv : rvOK ti rs = true) (hN : fn.ntmps = N)
    {cc : CC} (hcc : comp ti mu pures N c = cc) {res : List RV} (hres : rs.map (rvOf ti) = res) {args : List AV} (hl : args.length ≤ N) (hk0 : Γ.k0 = hlen h) (htn : Γ.tn ≤ N) (hrf : ∀ F, rfind Γ.rf F = true → FdIter P F ∧ ∀ args w, (callFunc F args).run P w = .ok (.enter F args) w) {own : Bool} {kn : Nat} (hkn : hlen h ≤ kn) {K : AV → List AO → Prop}
    (hrun : run Γ cc (leafK Γ.sp res own kn K) [] (leafK Γ.sp res own kn K) (argS 0 args) h) : ACalls P f args h K := by
  intro E w vs hvs m
  subst hcc hres
  have hlen := relL_length hvs
  have hb0 : ∀ i, Γ.k0 ≤ i → E.ι i = none := fun i hi => (m.fresh i (by rw [← hlen_eq, ← hk0]; exact hi)).1
  have hcalls : CallsIn Fence.wide 0 P f vs.toArray w (fun e w' => ∃ v r h' E', e = .returned v ∧ K r h' ∧ h.length ≤ h'.length ∧
      Mem ⟨w, E, fun b => ∃ i ob s, h[i]? = some ob ∧ ob.fz = false ∧ E.ι i = some (b, s) ∧ 0 < s⟩ E' h' w' ∧ rel E' r v) := by
    refine callsIn_of_wp_marks hf hb trivial ?_ (hro := rfl)
    have st : St ⟨w, E, fun b => ∃ i ob s, h[i]? = some ob ∧ ob.fz = false ∧ E.ι i = some (b, s) ∧ 0 < s⟩ N [] E (look (argS 0 args)) h { tmps := vs.toArray ++ Array.replicate (fn.ntmps - vs.toArray.size) undef, defers := [] } w := by
      refine ⟨m, fun k => ?_, by simp; omega, rfl⟩
      have := argS_look (i := 0) (by simpa using hvs) k
      have e : (vs.toArray ++ Array.replicate (fn.ntmps - vs.toArray.size) undef).getD k undef = vs.toArray.getD k undef := by
        simp only [Array.getD_eq_getD_getElem?, Array.getElem?_append]
        split
        · rfl
        · rename_i hk
          have h0 : vs.toArray[k]? = none := Array.getElem?_eq_none_iff.2 (by omega)
          rw [h0, Array.getElem?_replicate]
          split <;> rfl
      rw [e]; exact this
    have fin : ∀ (s : SL) (h1 : List AO) (a : Act) (w1 : World), leafK Γ.sp (rs.map (rvOf ti)) own kn K s h1 → Sx ⟨w, E, fun b => ∃ i ob s, h[i]? = some ob ∧ ob.fz = false ∧ E.ι i = some (b, s) ∧ 0 < s⟩ N [] s h1 a w1 →
        LeavesInM (Fw none) 0 P fn a.tmps (fun e w' => ∃ v r h' E', e = .returned v ∧ K r h' ∧ h.length ≤ h'.length ∧
          Mem ⟨w, E, fun b => ∃ i ob s, h[i]? = some ob ∧ ob.fz = false ∧ E.ι i = some (b, s) ∧ 0 < s⟩ E' h' w' ∧ rel E' r v) a.defers .returning w1 := fun s h1 a w1 hlf st => by
      obtain ⟨B', D', E1, hx, st⟩ := st
      obtain ⟨ds, e, nd, hds⟩ := hx.d
      rw [st.defers, e, List.append_nil]
      refine leaves_ok (B := ⟨w, E, fun b => ∃ i ob s, h[i]? = some ob ∧ ob.fz = false ∧ E.ι i = some (b, s) ∧ 0 < s⟩) (a := a) (N := N) hti hr hrv (k0 := Γ.k0) (by omega) hb0 hlf ?_ st.slots st.size ds w1 nd (fun d hd => ⟨(hds d hd).1, (st.mem.keeps d (hds d hd).2.1 (hds d hd).2.2.1).trans (hds d hd).2.2.2⟩) (hx.mem _ _ _ st.mem)
      intro v r h' E' w' q2 q3 q4 q5
      exact ⟨v, r, h', E', rfl, q2, by rw [← hlen_eq h, q5]; exact hkn, q3, q4⟩
    exact run_ok hti hsp hm hb0 htn hrf c _ _ [] _ _ h _ w hrun ⟨_, [], E, Ext.refl, st⟩ (fun s h1 a w1 hh st => fin s h1 a w1 hh st) (fun id s h1 a w1 hh st => hh.elim) (fun s h1 a w1 hh st => fin s h1 a w1 hh st)
  exact callsIn_wide.1 hcalls

end
end Go.Abs

namespace Go.Abs

def offsOf (P : Program) (fs : Array Field) : Option (List (Nat × Nat)) := fs.toList.mapM (fun f => (P.info? f.type).map fun i => (f.offset, i.size))
def tdOf (P : Program) (T : TypeId) : TD :=
  match P.underlying T with
  | some .bool => .bool
  | some (.int .i64) => .int
  | some (.int .u8) => .u8
  | some (.int .u32) => .u32
  | some (.int .u64) => .u64
  | some .string => .str
  | some (.pointer _) => .ptr
  | some (.slice e) => .slice e
  | some (.array n e) => .arr n e
  | some (.struct fs) => match offsOf P fs with | some offs => .struct offs | none => .other
  | some (.func _ _ _) => .func
  | some (.interface _) => .iface
  | some (.tuple _) => .tuple
  | _ => .other
def noT : TInf := ⟨.other, 0, 0, .any⟩
def tiOf (P : Program) (T : TypeId) : TInf :=
  match P.info? T with
  | some i => match i.zero with
    | some z => if z.cells.size = i.size ∧ (isAggD (tdOf P T) = false → i.size = 1) then ⟨tdOf P T, i.size, i.bytes, ofVal z⟩ else noT
    | none => noT
  | none => noT

theorem tdOf_ok (P : Program) (T : TypeId) : Desc P T (tdOf P T) := by
  unfold tdOf
  split <;> try (rename_i h; exact h)
  · rename_i h; exact ⟨_, h⟩
  · rename_i fs h
    split
    · rename_i offs ho; exact ⟨fs, h, ho⟩
    · trivial
  · rename_i h; exact ⟨_, _, _, h⟩
  · rename_i h; exact ⟨_, h⟩
  · rename_i h; exact ⟨_, h⟩
  · trivial

theorem tiOf_ok (P : Program) : TIok P (tiOf P) := by
  intro T
  cases hi : P.info? T with
  | none =>
    have e : tiOf P T = noT := by unfold tiOf; rw [hi]
    exact .inl ⟨by rw [e]; rfl, trivial⟩
  | some i =>
    cases hz : i.zero with
    | none =>
      have e : tiOf P T = noT := by unfold tiOf; rw [hi]; simp only [hz]
      exact .inl ⟨by rw [e]; rfl, trivial⟩
    | some z =>
      by_cases hh : z.cells.size = i.size ∧ (isAggD (tdOf P T) = false → i.size = 1)
      · have e : tiOf P T = ⟨tdOf P T, i.size, i.bytes, ofVal z⟩ := by unfold tiOf; rw [hi]; simp only [hz]; rw [if_pos hh]
        rw [e]
        exact .inr ⟨⟨i, z, hi, rfl, rfl, hz, fun E => rel_ofVal E z, hh.1⟩, tdOf_ok P T, hh.2⟩
      · have e : tiOf P T = noT := by unfold tiOf; rw [hi]; simp only [hz]; rw [if_neg hh]
        exact .inl ⟨by rw [e]; rfl, trivial⟩

end Go.Abs

namespace Go.Abs
section
variable {P : Program}

theorem callFunc_enter {f : FuncId} {fn : Func} (hf : P.funcs[f]? = some fn) (hn : (fn.name == "runtime.NumGoroutine") = false) (hb : fn.body.isNone = false) (args : Array Value) (w : World) : (callFunc f args).run P w = .ok (.enter f args) w := by
  have hn' : ¬ fn.name = "runtime.NumGoroutine" := by simpa using hn
  have hb' : ¬ fn.body = none := by intro e; rw [e] at hb; cases hb
  simp [callFunc, hf, hn', hb']

theorem SpOK.nil : SpOK P [] := fun g e h => by cases h
theorem SpOK.cons {g : Nat} {e : SpE} {sp : Sp} (he : SpE.ok P g e) (hc : ∀ args w, (callFunc g args).run P w = .ok (.enter g args) w) (hs : SpOK P sp) : SpOK P ((g, e) :: sp) := fun k e' h => by
  simp only [sfind] at h
  split at h
  · rename_i hb; cases h; obtain rfl := Nat.eq_of_beq_eq_true hb; exact ⟨he, hc⟩
  · exact hs k e' h

/-- A contract on one object. -/
theorem acalls_one {f : FuncId} {args args1 : List AV} {R : AV} {h : List AO} {i : Nat} {o o' : AO} (ha : ∀ ρ, ρ 0 = i → renL ρ args1 = args) (hr : below 0 R = true) (hi : hget h i = some o) (ho : below 0 o.c = true) (ho' : below 0 o'.c = true)
    (hc : ACalls P f args1 [o] (fun r hh => r = R ∧ hh = [o'])) : ACalls P f args h (fun r hh => r = R ∧ hh = hset h i o') := by
  rw [hget_eq] at hi
  have hlt := (List.getElem?_eq_some_iff.1 hi).1
  have h0 : rho [i] h.length 0 = i := rfl
  have e : ∀ x : AO, below 0 x.c = true → renO (rho [i] h.length) x = x := fun x hx => by unfold renO; rw [ren_below _ hx]
  have := acalls_local (ns := [i]) (h := h) (h1 := [o]) (h1' := [o']) (h' := hset h i o') (args1 := args1) (args := args) (by simp) (ha _ h0).symm rfl (fun j o1 hj => by
      cases j with
      | zero => simp at hj; subst hj; rw [h0, hi, e o ho]
      | succ j => simp at hj) hc
    ⟨by rw [hset_eq]; simp, by simp, fun k _ hk => by rw [hset_eq, List.getElem?_set_ne (by simp at hk; exact fun e => hk e.symm)], fun j hj => by
      cases j with
      | zero => rw [h0, hset_eq, List.getElem?_set_self hlt]; simp [e o' ho']
      | succ j => simp at hj⟩
  rw [ren_below R hr] at this
  exact this
end
end Go.Abs

namespace Go.Abs

/-! ### The same, in other words -/
def TellL : List AV → List AV → Prop
  | [], [] => True
  | a :: l, b :: m => Tell a b ∧ TellL l m
  | _, _ => False
def TellH : List AO → List AO → Prop
  | [], [] => True
  | a :: l, b :: m => (a.ep = b.ep ∧ a.fz = b.fz ∧ TellC a.c b.c) ∧ TellH l m
  | _, _ => False
theorem Tell.refl (a : AV) : Tell a a := fun _ _ h => h
theorem Tell.trans {a b c : AV} (h : Tell a b) (k : Tell b c) : Tell a c := fun E v r => k E v (h E v r)
theorem TellC.refl (a : AV) : TellC a a := fun _ _ h => h
theorem TellL.refl : ∀ l, TellL l l
  | [] => trivial
  | a :: l => ⟨Tell.refl a, TellL.refl l⟩
theorem TellH.refl : ∀ l, TellH l l
  | [] => trivial
  | a :: l => ⟨⟨rfl, rfl, TellC.refl _⟩, TellH.refl l⟩
theorem TellL.rel {E : Env} : ∀ {l m : List AV}, TellL l m → ∀ {vs : List Value}, relL E l vs → relL E m vs
  | [], [], _, _, r => r
  | a :: l, b :: m, h, vs, r => by
    simp only [relL] at r ⊢
    obtain ⟨u, us, rfl, h1, h2⟩ := r
    exact ⟨u, us, rfl, h.1 _ _ h1, h.2.rel h2⟩
  | [], _ :: _, h, _, _ => h.elim
  | _ :: _, [], h, _, _ => h.elim
theorem Tell.agg {l m : List AV} (h : TellL l m) : Tell (.agg l) (.agg m) := fun E v r => by
  simp only [Abs.rel] at r ⊢
  obtain ⟨vs, h1, h2, h3⟩ := r
  exact ⟨vs, h1, h.rel h2, h3⟩
theorem Tell.tup {l m : List AV} (h : TellL l m) : Tell (.tup l) (.tup m) := fun E v r => by
  simp only [Abs.rel] at r ⊢
  obtain ⟨vs, h1, h2⟩ := r
  exact ⟨vs, h1, h.rel h2⟩
theorem TellC.agg {l m : List AV} (h : TellL l m) : TellC (.agg l) (.agg m) := fun E v r => by
  simp only [relC] at r ⊢
  exact ⟨h.rel r.1, r.2⟩
theorem TellC.cells {c d : AV} (hd : isC d = true) (h : cells c = cells d) : TellC c d := fun E vs r => by
  obtain ⟨_, k2, k3⟩ := relC_iff.1 r
  exact relC_iff.2 ⟨hd, by rw [← h]; exact k2, k3⟩
theorem TellH.get : ∀ {h' h : List AO}, TellH h h' → h'.length = h.length ∧ ∀ (i : Nat) (b : AO), h'[i]? = some b → ∃ a, h[i]? = some a ∧ a.ep = b.ep ∧ a.fz = b.fz ∧ TellC a.c b.c
  | [], [], _ => ⟨rfl, fun i b hb => by simp at hb⟩
  | b0 :: t', a0 :: t, hq => by
    obtain ⟨h1, h2⟩ := hq
    obtain ⟨k1, k2⟩ := h2.get
    refine ⟨by simp [k1], fun i b hb => ?_⟩
    cases i with
    | zero => simp at hb; subst hb; exact ⟨a0, rfl, h1⟩
    | succ i => exact k2 i b (by simpa using hb)
  | [], _ :: _, hq => hq.elim
  | _ :: _, [], hq => hq.elim
theorem Mem.tell {B : Base} {E : Env} {h : List AO} {w : World} (m : Mem B E h w) {h' : List AO} (hq : TellH h h') : Mem B E h' w := by
  obtain ⟨hl, get⟩ := hq.get
  refine ⟨m.le, m.size, m.os, m.tape, m.output, m.keeps, m.sat, fun i b hi => ?_, fun i j oi oj b s t hi hj fi fj => ?_, m.newP, fun i hi => m.fresh i (by omega), fun i hi => m.base i (by omega)⟩
  · obtain ⟨a', h1, h2, h3, h4⟩ := get i b hi
    obtain ⟨q1, b', s, q2, q3⟩ := m.obj i a' h1
    have tr : ∀ vs, relC E a'.c vs → relC E b.c vs := fun vs hvs => h4 E vs hvs
    refine ⟨q1.trans h2, b', s, q2, ?_⟩
    rw [h3] at q3
    rcases q3 with ⟨g1, g2⟩ | ⟨g0, vs, g1, g2⟩ | ⟨g0, g1, cur, T, fr, vs, post, g2, g3, g4, g5, g6, g7⟩
    · exact .inl ⟨g1, tr _ g2⟩
    · exact .inr (.inl ⟨g0, vs, g1, tr _ g2⟩)
    · exact .inr (.inr ⟨g0, g1, cur, T, fr, vs, post, g2, g3, g4, g5, tr _ g6, g7⟩)
  · obtain ⟨ai, i1, _, i3, _⟩ := get i oi hi
    obtain ⟨aj, j1, _, j3, _⟩ := get j oj hj
    exact m.inj i j ai aj b s t i1 j1 (i3.trans fi) (j3.trans fj)
section
variable {P : Program} {f : FuncId} {args args' : List AV} {h h' : List AO} {K K' : AV → List AO → Prop}
/-- What comes, in other words. -/
theorem ACalls.tell (hc : ACalls P f args h K) (hk : ∀ r h1, K r h1 → ∃ r2 h2, K' r2 h2 ∧ Tell r r2 ∧ TellH h1 h2) : ACalls P f args h K' := by
  intro E w vs hvs m
  refine Calls.mono (hc E w vs hvs m) fun e w' hh => ?_
  obtain ⟨v, r, h1, E', q1, q2, q3, q4, q5⟩ := hh
  obtain ⟨r2, h2, p1, p2, p3⟩ := hk r h1 q2
  exact ⟨v, r2, h2, E', q1, p1, by rw [p3.get.1]; exact q3, q4.tell p3, p2 _ _ q5⟩
theorem ACalls.mono (hc : ACalls P f args h K) (hk : ∀ r h1, K r h1 → K' r h1) : ACalls P f args h K' :=
  hc.tell fun r h1 hh => ⟨r, h1, hk _ _ hh, Tell.refl r, TellH.refl h1⟩
/-- What is told of the arguments, in other words. -/
theorem ACalls.said (ha : TellL args args') (hc : ACalls P f args' h K) : ACalls P f args h K := fun E w vs hvs m => hc E w vs (ha.rel hvs) m
/-- What the arguments' relation says. -/
theorem ACalls.have (F : Prop) (hF : ∀ E vs, relL E args vs → F) (hc : F → ACalls P f args h K) : ACalls P f args h K := fun E w vs hvs m => hc (hF E vs hvs) E w vs hvs m
theorem ACalls.heap (ht : TellH h h') (hc : ACalls P f args h' K) : ACalls P f args h K := by
  intro E w vs hvs m
  obtain ⟨hl, get⟩ := ht.get
  have e : (fun b => ∃ i ob s, h[i]? = some ob ∧ ob.fz = false ∧ E.ι i = some (b, s) ∧ 0 < s) = (fun b => ∃ i ob s, h'[i]? = some ob ∧ ob.fz = false ∧ E.ι i = some (b, s) ∧ 0 < s) := by
    funext b
    apply propext
    constructor
    · rintro ⟨i, ob, s, h1, h2, h3, h4⟩
      have hi : i < h'.length := by rw [hl]; exact (List.getElem?_eq_some_iff.1 h1).1
      obtain ⟨a, a1, a2, a3, a4⟩ := get i h'[i] (List.getElem?_eq_getElem hi)
      rw [h1] at a1; cases a1
      exact ⟨i, h'[i], s, List.getElem?_eq_getElem hi, by rw [← a3]; exact h2, h3, h4⟩
    · rintro ⟨i, ob, s, h1, h2, h3, h4⟩
      obtain ⟨a, a1, a2, a3, a4⟩ := get i ob h1
      exact ⟨i, a, s, a1, by rw [a3]; exact h2, h3, h4⟩
  have hc' := hc E w vs hvs
  rw [← e] at hc'
  have := hc' (m.tell ht)
  rw [hl] at this
  exact this
end

/-! ### A body's frame: without loops; with one; where objects are told of; with a range over a function -/
def G0 (keep : List Nat) (sp : Sp) : G := { sp := sp, keep := keep, k0 := 0, inv := fun _ _ _ => { X := Unit, x0 := (), pre := fun _ => False, inv := fun _ => ([], []), mu := fun _ => 0, ren := false } }
def GL (keep : List Nat) (sp : Sp) (L : Nat → LI) : G := { sp := sp, keep := keep, k0 := 0, inv := fun i _ _ => L i }
def GK (k0 : Nat) (keep : List Nat) (sp : Sp) : G := { sp := sp, keep := keep, k0 := k0, inv := fun _ _ _ => { X := Unit, x0 := (), pre := fun _ => False, inv := fun _ => ([], []), mu := fun _ => 0, ren := false } }
def GKL (k0 : Nat) (keep : List Nat) (sp : Sp) (L : Nat → LI) : G := { sp := sp, keep := keep, k0 := k0, inv := fun i _ _ => L i }
def GR (keep : List Nat) (sp : Sp) (R : RI) (rf : List Nat) (tn : Nat) : G := { sp := sp, keep := keep, k0 := 0, inv := fun _ _ _ => { X := Unit, x0 := (), pre := fun _ => False, inv := fun _ => ([], []), mu := fun _ => 0, ren := false }, rinv := R, rf := rf, tn := tn }

/-! ### Kinds -/
structure By where
  nil : Bool
  l : List UInt8
def By.A (b : By) : AV := .sl b.nil b.l.length 1 (.ab b.l) false
structure Num where
  (a0 a1 a2 a3 a4 a5 a6 a7 : UInt32)
  deriving DecidableEq
def Num.C (x : Num) : List AV := [.u32 x.a0, .u32 x.a1, .u32 x.a2, .u32 x.a3, .u32 x.a4, .u32 x.a5, .u32 x.a6, .u32 x.a7]
def Num.L (x : Num) : List UInt32 := [x.a0, x.a1, x.a2, x.a3, x.a4, x.a5, x.a6, x.a7]
def Num.of (l : List UInt32) : Num := ⟨l.getD 0 0, l.getD 1 0, l.getD 2 0, l.getD 3 0, l.getD 4 0, l.getD 5 0, l.getD 6 0, l.getD 7 0⟩
def Num.zero : Num := ⟨0, 0, 0, 0, 0, 0, 0, 0⟩

def intD : AV → Option Int | .int n => some n | _ => none
def u32D : AV → Option UInt32 | .u32 n => some n | _ => none
def u8D : AV → Option UInt8 | .u8 n => some n | _ => none
def boolD : AV → Option Bool | .bool n => some n | _ => none
def strD : AV → Option (List UInt8) | .str n => some n | _ => none
def byD : AV → Option By
  | .sl nl n sz (.ab l) fl => match Nat.beq sz 1 with | true => some ⟨nl, l⟩ | false => none
  | .sl true n sz (.agg []) fl => some ⟨true, []⟩
  | _ => none
def numD : AV → Option Num
  | .agg [.u32 a0, .u32 a1, .u32 a2, .u32 a3, .u32 a4, .u32 a5, .u32 a6, .u32 a7] => some ⟨a0, a1, a2, a3, a4, a5, a6, a7⟩
  | _ => none
def intsD : AV → Option (List Int)
  | .sl nl n sz (.ai l) fl => match Nat.beq sz 1 with | true => some l | false => none
  | .sl true n sz (.agg []) fl => some []
  | _ => none

/-- A kind of argument: how it is read, how it is told. -/
structure Kd (α : Type) where
  dec : AV → Option α
  enc : α → AV
  tell : ∀ a x, dec a = some x → Tell a (enc x)
  below : ∀ x, below 0 (enc x) = true
def kInt : Kd Int := ⟨intD, .int, fun a x h => by cases a <;> simp only [intD, reduceCtorEq, Option.some.injEq] at h; subst h; exact Tell.refl _, fun _ => rfl⟩
def kU32 : Kd UInt32 := ⟨u32D, .u32, fun a x h => by cases a <;> simp only [u32D, reduceCtorEq, Option.some.injEq] at h; subst h; exact Tell.refl _, fun _ => rfl⟩
def kU8 : Kd UInt8 := ⟨u8D, .u8, fun a x h => by cases a <;> simp only [u8D, reduceCtorEq, Option.some.injEq] at h; subst h; exact Tell.refl _, fun _ => rfl⟩
def kBool : Kd Bool := ⟨boolD, .bool, fun a x h => by cases a <;> simp only [boolD, reduceCtorEq, Option.some.injEq] at h; subst h; exact Tell.refl _, fun _ => rfl⟩
def kStr : Kd (List UInt8) := ⟨strD, .str, fun a x h => by cases a <;> simp only [strD, reduceCtorEq, Option.some.injEq] at h; subst h; exact Tell.refl _, fun _ => rfl⟩
theorem sl_ab {E : Env} {nl fl : Bool} {n : Nat} {l : List UInt8} {v : Value} (h : rel E (.sl nl n 1 (.ab l) fl) v) : n = l.length ∧ (nl = true → l = []) := by
  simp only [rel] at h
  split at h
  · obtain ⟨h1, h2, h3⟩ := h
    simp only [relC] at h3
    have : l = [] := by simpa using h3.symm
    exact ⟨by rw [h2, this]; rfl, fun _ => this⟩
  · rename_i hn
    obtain ⟨a, cap, vs, h1, h2, h3, h4, h5, h6⟩ := h
    simp only [relC] at h6
    exact ⟨by rw [h6] at h5; simp at h5; omega, fun e => absurd e hn⟩
theorem sl_ai {E : Env} {nl fl : Bool} {n : Nat} {l : List Int} {v : Value} (h : rel E (.sl nl n 1 (.ai l) fl) v) : n = l.length ∧ (nl = true → l = []) := by
  simp only [rel] at h
  split at h
  · obtain ⟨h1, h2, h3⟩ := h
    simp only [relC] at h3
    have : l = [] := by simpa using h3.symm
    exact ⟨by rw [h2, this]; rfl, fun _ => this⟩
  · rename_i hn
    obtain ⟨a, cap, vs, h1, h2, h3, h4, h5, h6⟩ := h
    simp only [relC] at h6
    exact ⟨by rw [h6] at h5; simp at h5; omega, fun e => absurd e hn⟩
theorem sl_full {E : Env} {nl fl : Bool} {n sz : Nat} {c : AV} {v : Value} (h : rel E (.sl nl n sz c fl) v) : rel E (.sl nl n sz c false) v := by
  simp only [rel] at h ⊢
  split
  · rename_i hn; rw [if_pos hn] at h; exact h
  · rename_i hn; rw [if_neg hn] at h
    obtain ⟨a, cap, vs, h1, h2, h3, h4⟩ := h
    exact ⟨a, cap, vs, h1, h2, (fun e => by cases e), h4⟩
theorem sl_nil {E : Env} {n sz : Nat} {c d : AV} {fl fl' : Bool} {v : Value} (hd : relC E d []) (h : rel E (.sl true n sz c fl) v) : rel E (.sl true 0 1 d fl') v := by
  simp only [rel, if_true] at h ⊢
  exact ⟨h.1, trivial, hd⟩
theorem byD_tell (a : AV) (b : By) (h : byD a = some b) : Tell a b.A := by
  unfold byD at h
  split at h
  · rename_i nl n sz l fl
    split at h
    · rename_i hz
      cases h
      obtain rfl := Nat.eq_of_beq_eq_true hz
      intro E v r
      obtain ⟨e, _⟩ := sl_ab r
      subst e
      exact sl_full r
    · cases h
  · cases h
    exact fun E v r => sl_nil (by simp [relC]) r
  · cases h
def kBy : Kd By := ⟨byD, By.A, byD_tell, fun _ => rfl⟩
theorem By.A_spec {E : Env} {b : By} {v : Value} (h : rel E b.A v) : b.nil = true → b.l = [] := (sl_ab h).2
theorem numD_tell (a : AV) (x : Num) (h : numD a = some x) : Tell a (.agg x.C) := by
  unfold numD at h
  split at h
  · cases h; exact Tell.refl _
  · cases h
def kNum : Kd Num := ⟨numD, fun x => .agg x.C, numD_tell, fun _ => rfl⟩
def intsA (l : List Int) : AV := .sl false l.length 1 (.ai l) false
theorem below_ok : ∀ x, below 0 (intsA x) = true := fun _ => rfl

/-! ### Contracts that lay objects -/
theorem acalls_more {P : Program} {f : FuncId} {args : List AV} {R1 : AV} {h1' : List AO} (hb : belowL 0 args = true) (ho : ∀ o ∈ h1', below 0 o.c = true) (hc : ACalls P f args [] (fun r hh => r = R1 ∧ hh = h1')) (h : List AO) :
    ACalls P f args h (fun r hh => r = ren (rho [] h.length) R1 ∧ hh = h ++ h1') := by
  refine acalls_local (ns := []) (h := h) (h1 := []) (h1' := h1') (h' := h ++ h1') (args1 := args) (args := args) List.nodup_nil (renL_below args hb).symm rfl (fun j o1 hj => by simp at hj) hc
    ⟨by simp, by simp, fun i hi _ => List.getElem?_append_left hi, fun j hj => ?_⟩
  have e : rho [] h.length j = h.length + j := by simp [rho]
  rw [e, List.getElem?_append_right (by omega), show h.length + j - h.length = j by omega]
  cases hj' : h1'[j]? with
  | none => rfl
  | some o => simp only [Option.map_some, renO]; rw [ren_below _ (ho o (List.mem_of_getElem? hj'))]

/-! ### Contracts on one object -/
theorem acalls_obj {P : Program} {f : FuncId} {args args1 : List AV} {R R1 : AV} {h : List AO} {i : Nat} {o o' : AO} (ha : ∀ ρ, ρ 0 = i → renL ρ args1 = args) (hr : ∀ ρ, ρ 0 = i → ren ρ R1 = R) (hi : hget h i = some o) (ho : below 0 o.c = true) (ho' : below 0 o'.c = true)
    (hc : ACalls P f args1 [o] (fun r hh => r = R1 ∧ hh = [o'])) : ACalls P f args h (fun r hh => r = R ∧ hh = hset h i o') := by
  rw [hget_eq] at hi
  have hlt := (List.getElem?_eq_some_iff.1 hi).1
  have h0 : rho [i] h.length 0 = i := rfl
  have e : ∀ x : AO, below 0 x.c = true → renO (rho [i] h.length) x = x := fun x hx => by unfold renO; rw [ren_below _ hx]
  have := acalls_local (ns := [i]) (h := h) (h1 := [o]) (h1' := [o']) (h' := hset h i o') (args1 := args1) (args := args) (by simp) (ha _ h0).symm rfl (fun j o1 hj => by
      cases j with
      | zero => simp at hj; subst hj; rw [h0, hi, e o ho]
      | succ j => simp at hj) hc
    ⟨by rw [hset_eq]; simp, by simp, fun k _ hk => by rw [hset_eq, List.getElem?_set_ne (by simp at hk; exact fun e => hk e.symm)], fun j hj => by
      cases j with
      | zero => rw [h0, hset_eq, List.getElem?_set_self hlt]; simp [e o' ho']
      | succ j => simp at hj⟩
  rw [hr _ h0] at this
  exact this
/-- A function of a pointer to an object, and of more that has nothing to do with objects. -/
def evP {σ α : Type} (d0 : AV → Option σ) (e0 : σ → AV) (d1 : List AV → Option α) (pre : σ → α → Option Prop) (out : σ → α → AV) (nxt : σ → α → σ) : List AV → List AO → ER
  | .ptr i e o :: as, h => match Nat.beq e 0 with
    | true => match Nat.beq o 0 with
      | true => match hget h i with
        | some ob => match Nat.beq ob.ep 0 with
          | true => match ob.fz with
            | false => match d0 ob.c with
              | some s => match d1 as with
                | some x => .e (pre s x) (out s x) (hset h i ⟨0, e0 (nxt s x), false⟩)
                | none => .no
              | none => .no
            | true => .no
          | false => .no
        | none => .no
      | false => .no
    | false => .no
  | _, _ => .no
structure KL (α : Type) where
  dec : List AV → Option α
  enc : α → List AV
  tell : ∀ a x, dec a = some x → TellL a (enc x)
  below : ∀ x, belowL 0 (enc x) = true
def l0D : List AV → Option Unit | [] => some () | _ => none
def l1D {α : Type} (d1 : AV → Option α) : List AV → Option α | [a] => d1 a | _ => none
def l2D {α β : Type} (d1 : AV → Option α) (d2 : AV → Option β) : List AV → Option (α × β)
  | [a, b] => match d1 a with | some x => (match d2 b with | some y => some (x, y) | none => none) | none => none
  | _ => none
def kl0 : KL Unit := ⟨l0D, fun _ => [], fun a x h => (by cases a with | nil => trivial | cons => cases h), fun _ => rfl⟩
def kl1 {α : Type} (k : Kd α) : KL α := ⟨l1D k.dec, fun x => [k.enc x], fun a x h => (match a, h with
  | [a], h => ⟨k.tell _ _ h, trivial⟩), fun x => by simp [belowL, k.below]⟩
theorem evP_ok {P : Program} {g : Nat} {σ α : Type} (k0 : Kd σ) (hC0 : ∀ a s, k0.dec a = some s → TellC a (k0.enc s)) (k1 : KL α) {pre : σ → α → Option Prop} {out : σ → α → AV} {nxt : σ → α → σ} {fz : Bool} (hr : ∀ s x, below 0 (out s x) = true)
    (hc : ∀ s x, holds (pre s x) → ACalls P g (.ptr 0 0 0 :: k1.enc x) [⟨0, k0.enc s, false⟩] (fun r hh => r = out s x ∧ hh = [⟨0, k0.enc (nxt s x), false⟩])) : SpE.ok P g ⟨fz, evP k0.dec k0.enc k1.dec pre out nxt⟩ := by
  intro args h
  simp only
  unfold evP
  split
  · rename_i C A he; split at he <;> (repeat' split at he) <;> cases he
  · rename_i C A h1 he
    split at he
    · rename_i i e o as
      split at he
      · rename_i he0
        split at he
        · rename_i ho0
          split at he
          · rename_i ob hob
            split at he
            · rename_i hep
              split at he
              · rename_i hfz
                split at he
                · rename_i s hs
                  split at he
                  · rename_i x hx
                    cases he
                    obtain rfl := Nat.eq_of_beq_eq_true he0
                    obtain rfl := Nat.eq_of_beq_eq_true ho0
                    have hep := Nat.eq_of_beq_eq_true hep
                    intro hC
                    have h1 := acalls_obj (P := P) (f := g) (args := .ptr i 0 0 :: k1.enc x) (args1 := .ptr 0 0 0 :: k1.enc x) (R := out s x) (R1 := out s x) (h := hset h i ⟨0, k0.enc s, false⟩) (i := i) (o := ⟨0, k0.enc s, false⟩) (o' := ⟨0, k0.enc (nxt s x), false⟩)
                      (fun ρ hρ => by simp only [renL, ren, hρ, renL_below _ (k1.below x)]) (fun ρ _ => ren_below _ (hr s x)) (by rw [hget_eq, hset_eq, List.getElem?_set_self]; rw [hget_eq] at hob; exact (List.getElem?_eq_some_iff.1 hob).1) (k0.below s) (k0.below _) (hc s x hC)
                    have e : hset (hset h i ⟨0, k0.enc s, false⟩) i ⟨0, k0.enc (nxt s x), false⟩ = hset h i ⟨0, k0.enc (nxt s x), false⟩ := by simp only [hset_eq, List.set_set]
                    rw [e] at h1
                    refine ACalls.heap ?_ (ACalls.said (args' := .ptr i 0 0 :: k1.enc x) ⟨Tell.refl _, k1.tell _ _ hx⟩ h1)
                    have key : ∀ (l : List AO) (i : Nat), l[i]? = some ob → TellH l (l.set i ⟨0, k0.enc s, false⟩) := fun l => by
                      induction l with
                      | nil => intro i hi; simp at hi
                      | cons y l ih =>
                        intro i hi
                        cases i with
                        | zero =>
                          simp at hi; subst hi
                          exact ⟨⟨hep, hfz, hC0 _ _ hs⟩, TellH.refl _⟩
                        | succ i => exact ⟨⟨rfl, rfl, TellC.refl _⟩, ih i (by simpa using hi)⟩
                    rw [hset_eq]
                    exact key h i (by rw [← hget_eq]; exact hob)
                  · cases he
                · cases he
              · cases he
            · cases he
          · cases he
        · cases he
      · cases he
    · cases he
  · rename_i C h1 he; split at he <;> (repeat' split at he) <;> cases he
  · trivial

/-! ### Contracts that touch no object, by kinds -/
section
variable {α β γ δ : Type}
def ev0 (out : AV) : List AV → List AO → ER
  | [], _ => .v none out
  | _, _ => .no
def ev1 (d1 : AV → Option α) (pre : α → Option Prop) (out : α → AV) : List AV → List AO → ER
  | [a], _ => match d1 a with | some x => .v (pre x) (out x) | none => .no
  | _, _ => .no
def ev2 (d1 : AV → Option α) (d2 : AV → Option β) (pre : α → β → Option Prop) (out : α → β → AV) : List AV → List AO → ER
  | [a, b], _ => match d1 a with | some x => (match d2 b with | some y => .v (pre x y) (out x y) | none => .no) | none => .no
  | _, _ => .no
def ev3 (d1 : AV → Option α) (d2 : AV → Option β) (d3 : AV → Option γ) (pre : α → β → γ → Option Prop) (out : α → β → γ → AV) : List AV → List AO → ER
  | [a, b, c], _ => match d1 a with | some x => (match d2 b with | some y => (match d3 c with | some z => .v (pre x y z) (out x y z) | none => .no) | none => .no) | none => .no
  | _, _ => .no
def ev4 (d1 : AV → Option α) (d2 : AV → Option β) (d3 : AV → Option γ) (d4 : AV → Option δ) (pre : α → β → γ → δ → Option Prop) (out : α → β → γ → δ → AV) : List AV → List AO → ER
  | [a, b, c, d], _ => match d1 a with | some x => (match d2 b with | some y => (match d3 c with | some z => (match d4 d with | some u => .v (pre x y z u) (out x y z u) | none => .no) | none => .no) | none => .no) | none => .no
  | _, _ => .no
variable {P : Program} {g : Nat}
theorem ev0_ok {out : AV} {fz : Bool} (hr : below 0 out = true) (hc : ACalls P g [] [] (fun r hh => r = out ∧ hh = [])) : SpE.ok P g ⟨fz, ev0 out⟩ := by
  intro args h
  cases args with
  | nil => exact fun _ => acalls_pure rfl hr hc h
  | cons a l => simp only [ev0]
theorem ev1_ok (k1 : Kd α) {pre : α → Option Prop} {out : α → AV} {fz : Bool} (hr : ∀ x, below 0 (out x) = true) (hc : ∀ x, holds (pre x) → ACalls P g [k1.enc x] [] (fun r hh => r = out x ∧ hh = [])) : SpE.ok P g ⟨fz, ev1 k1.dec pre out⟩ := by
  intro args h
  rcases args with _ | ⟨a, _ | ⟨b, l⟩⟩
  · simp only [ev1]
  · simp only [ev1]
    split
    · rename_i C A he
      split at he
      · rename_i x hx
        cases he
        exact fun hC => ACalls.said (args' := [k1.enc x]) ⟨k1.tell _ _ hx, trivial⟩ (acalls_pure (by simp [belowL, k1.below]) (hr x) (hc x hC) h)
      · cases he
    · rename_i he; split at he <;> cases he
    · rename_i he; split at he <;> cases he
    · trivial
  · simp only [ev1]
theorem ev2_ok (k1 : Kd α) (k2 : Kd β) {pre : α → β → Option Prop} {out : α → β → AV} {fz : Bool} (hr : ∀ x y, below 0 (out x y) = true) (hc : ∀ x y, holds (pre x y) → ACalls P g [k1.enc x, k2.enc y] [] (fun r hh => r = out x y ∧ hh = [])) : SpE.ok P g ⟨fz, ev2 k1.dec k2.dec pre out⟩ := by
  intro args h
  rcases args with _ | ⟨a, _ | ⟨b, _ | ⟨c, l⟩⟩⟩ <;> try (simp only [ev2]; done)
  simp only [ev2]
  cases h1 : k1.dec a with
  | none => trivial
  | some x =>
    cases h2 : k2.dec b with
    | none => trivial
    | some y => exact fun hC => ACalls.said (args' := [k1.enc x, k2.enc y]) ⟨k1.tell _ _ h1, k2.tell _ _ h2, trivial⟩ (acalls_pure (by simp [belowL, k1.below, k2.below]) (hr x y) (hc x y hC) h)
theorem ev3_ok (k1 : Kd α) (k2 : Kd β) (k3 : Kd γ) {pre : α → β → γ → Option Prop} {out : α → β → γ → AV} {fz : Bool} (hr : ∀ x y z, below 0 (out x y z) = true) (hc : ∀ x y z, holds (pre x y z) → ACalls P g [k1.enc x, k2.enc y, k3.enc z] [] (fun r hh => r = out x y z ∧ hh = [])) : SpE.ok P g ⟨fz, ev3 k1.dec k2.dec k3.dec pre out⟩ := by
  intro args h
  rcases args with _ | ⟨a, _ | ⟨b, _ | ⟨c, _ | ⟨d, l⟩⟩⟩⟩ <;> try (simp only [ev3]; done)
  simp only [ev3]
  cases h1 : k1.dec a with
  | none => trivial
  | some x =>
    cases h2 : k2.dec b with
    | none => trivial
    | some y =>
      cases h3 : k3.dec c with
      | none => trivial
      | some z => exact fun hC => ACalls.said (args' := [k1.enc x, k2.enc y, k3.enc z]) ⟨k1.tell _ _ h1, k2.tell _ _ h2, k3.tell _ _ h3, trivial⟩ (acalls_pure (by simp [belowL, k1.below, k2.below, k3.below]) (hr x y z) (hc x y z hC) h)
theorem ev4_ok (k1 : Kd α) (k2 : Kd β) (k3 : Kd γ) (k4 : Kd δ) {pre : α → β → γ → δ → Option Prop} {out : α → β → γ → δ → AV} {fz : Bool} (hr : ∀ x y z u, below 0 (out x y z u) = true) (hc : ∀ x y z u, holds (pre x y z u) → ACalls P g [k1.enc x, k2.enc y, k3.enc z, k4.enc u] [] (fun r hh => r = out x y z u ∧ hh = [])) : SpE.ok P g ⟨fz, ev4 k1.dec k2.dec k3.dec k4.dec pre out⟩ := by
  intro args h
  rcases args with _ | ⟨a, _ | ⟨b, _ | ⟨c, _ | ⟨d, _ | ⟨e, l⟩⟩⟩⟩⟩ <;> try (simp only [ev4]; done)
  simp only [ev4]
  cases h1 : k1.dec a with
  | none => trivial
  | some x =>
    cases h2 : k2.dec b with
    | none => trivial
    | some y =>
      cases h3 : k3.dec c with
      | none => trivial
      | some z =>
        cases h4 : k4.dec d with
        | none => trivial
        | some u => exact fun hC => ACalls.said (args' := [k1.enc x, k2.enc y, k3.enc z, k4.enc u]) ⟨k1.tell _ _ h1, k2.tell _ _ h2, k3.tell _ _ h3, k4.tell _ _ h4, trivial⟩ (acalls_pure (by simp [belowL, k1.below, k2.below, k3.below, k4.below]) (hr x y z u) (hc x y z u hC) h)
end
end Go.Abs

namespace Go.Abs
open Go.RowKit

def envOf (w : World) : Env := ⟨fun b => match w.heap[b]? with | some (.cells cs _ _) => some cs | _ => none, fun _ => none, fun _ => 0⟩
theorem mem_of (w : World) : Mem ⟨w, envOf w, fun b => ∃ i ob s, ([] : List AO)[i]? = some ob ∧ ob.fz = false ∧ (envOf w).ι i = some (b, s) ∧ 0 < s⟩ (envOf w) [] w := by
  refine ⟨Env.le.refl _, Nat.le_refl _, rfl, rfl, rfl, fun b _ _ => rfl, fun b cs hb => ?_, fun i ob hi => by simp at hi, fun i j oi oj b s t hi => by simp at hi, fun b hb => .inl hb, fun i _ => ⟨rfl, rfl⟩, fun i _ => rfl⟩
  simp only [envOf] at hb
  split at hb
  · rename_i cs' T fr he; cases hb; exact ⟨T, fr, he⟩
  · cases hb
theorem law_calls {P : Program} {f : FuncId} {args : List AV} (hc : ACalls P f args [] (fun a h => a = .bool true ∧ h = [])) (w : World) (vs : List Value) (hr : relL (envOf w) args vs) :
    Calls P f vs.toArray w (fun e w' => e = .returned (.bool true) ∧ Below w.heap.size w w') := by
  refine (hc (envOf w) w vs hr (mem_of w)).mono fun e w' h => ?_
  obtain ⟨v, r, h', E', rfl, ⟨rfl, rfl⟩, _, m, hv⟩ := h
  simp only [rel] at hv
  subst hv
  exact ⟨rfl, ⟨m.os, m.tape, m.output, m.size, fun k hk => m.keeps k hk (fun ⟨i, ob, s, h1, _⟩ => by simp at h1)⟩⟩
/-- A run of cells that reads as it does. -/
theorem at_of {w : World} {b o : Nat} {vs : List Value} (h0 : vs ≠ []) (h : ∀ i (hi : i < vs.length), w.cell? ⟨b, o + i, none⟩ = some vs[i]) : (envOf w).at_ b o vs := by
  have hp : 0 < vs.length := List.length_pos_iff.2 h0
  obtain ⟨cs, hcs⟩ : ∃ cs, (envOf w).p b = some cs := by
    have h1 := h 0 hp
    unfold World.cell? at h1
    simp only [envOf]
    split at h1
    · rename_i c T fr he
      exact ⟨c, by rw [show w.heap[b]? = _ from he]⟩
    · cases h1
  have hg : ∀ i (hi : i < vs.length), cs[o + i]? = some vs[i] := fun i hi => by
    have h1 := h i hi
    simp only [envOf] at hcs
    unfold World.cell? at h1
    split at hcs
    · rename_i c T fr he
      cases hcs
      simp only at h1
      rw [he] at h1
      simpa using h1
    · cases hcs
  have hsz : o + vs.length ≤ cs.size := by
    have h1 := hg (vs.length - 1) (by omega)
    have := (Array.getElem?_eq_some_iff.1 h1).1
    omega
  refine ⟨cs, cs.toList.take o, cs.toList.drop (o + vs.length), hcs, ?_, by simp; omega⟩
  have e : vs = (cs.toList.drop o).take vs.length := by
    apply List.ext_getElem
    · simp; omega
    · intro i h1 h2
      have := hg i h1
      rw [List.getElem_take, List.getElem_drop]
      have h3 := (Array.getElem?_eq_some_iff.1 this)
      obtain ⟨h4, h5⟩ := h3
      rw [← h5]; simp
  have e2 : (cs.toList.drop o).take vs.length ++ cs.toList.drop (o + vs.length) = cs.toList.drop o := by
    rw [← List.drop_drop, List.take_append_drop]
  rw [List.append_assoc]
  conv => rhs; rw [e]
  rw [List.length_take, List.length_drop, Nat.min_eq_left (by simp; omega), e2, List.take_append_drop]

/-- What the walk is told of a slice of numbers that came in. -/
def IsRow (k : IntKind) (w : World) (a : Option Addr) (len cap : Nat) (zs : List Int) : Prop :=
  (a = none ∧ len = 0 ∧ cap = 0 ∧ zs = []) ∨
  ∃ x, a = some x ∧ len ≤ cap ∧ cap ≤ maxLen ∧ zs.length = cap ∧ (∀ i, i < zs.length → w.cell? (x.add i) = some (.int k (zs.getD i 0))) ∧ ∀ n ∈ zs, (Lit.int k n).wf = true
theorem row_rel {k : IntKind} {w : World} {a : Option Addr} {len cap : Nat} {zs : List Int} {c : AV} (h : IsRow k w a len cap zs) (hc : relC (envOf w) c ((zs.take len).map (Value.int k))) : rel (envOf w) (.sl a.isNone len 1 c false) (.slice a len cap) := by
  simp only [rel]
  rcases h with ⟨rfl, rfl, rfl, rfl⟩ | ⟨x, rfl, h1, h2, h3, h4, h5⟩
  · simp only [Option.isNone, if_true]
    exact ⟨trivial, trivial, by simpa using hc⟩
  · simp only [Option.isNone, Bool.false_eq_true, if_false]
    refine ⟨x, cap, (zs.take len).map (Value.int k), rfl, h1, (fun e => by cases e), ?_, by simp; omega, hc⟩
    by_cases h0 : len = 0
    · left; subst h0; simp
    · right
      obtain ⟨b, off, spot⟩ := x
      have hc0 := h4 0 (by omega)
      have hs : spot = none := by simpa [Addr.add] using World.cell?_spot hc0
      subst hs
      refine ⟨b, off, rfl, at_of (by intro e; have := congrArg List.length e; rw [List.length_map, List.length_take, List.length_nil] at this; omega) fun i hi => ?_⟩
      simp at hi
      have := h4 i (by omega)
      have e : (⟨b, off, none⟩ : Addr).add i = ⟨b, off + i, none⟩ := by
        unfold Addr.add
        split
        · rename_i hz; subst hz; rfl
        · rfl
      rw [e] at this
      rw [this]
      simp [List.getD_eq_getElem?_getD, List.getElem?_eq_getElem (show i < zs.length by omega)]
theorem byte_in {n : Int} (h : (Lit.int .u8 n).wf = true) : 0 ≤ n ∧ n ≤ 255 := by
  simp only [Lit.wf, Bool.and_eq_true, decide_eq_true_eq] at h
  exact h
theorem row_bytes {w : World} {a : Option Addr} {len cap : Nat} {zs : List Int} (h : IsRow .u8 w a len cap zs) : ∃ b : By, rel (envOf w) b.A (.slice a len cap) := by
  have hw : ∀ n ∈ zs, (Lit.int .u8 n).wf = true := by
    rcases h with ⟨_, _, _, rfl⟩ | ⟨_, _, _, _, _, _, h⟩
    · intro n hn; cases hn
    · exact h
  have hl : (zs.take len).length = len := by
    rcases h with ⟨_, rfl, _, rfl⟩ | ⟨_, _, h1, _, h3, _, _⟩
    · rfl
    · simp; omega
  refine ⟨⟨a.isNone, (zs.take len).map UInt8.ofInt⟩, ?_⟩
  show rel _ (.sl a.isNone ((zs.take len).map UInt8.ofInt).length 1 _ false) _
  rw [List.length_map, hl]
  refine row_rel h ?_
  simp only [relC, List.map_map]
  apply List.map_congr_left
  intro n hn
  have h8 := hw n (List.mem_of_mem_take hn)
  have h8 := byte_in h8
  simp only [Function.comp, u8v, u8_ofInt]
  congr 1
  omega
theorem row_ints {w : World} {a : Option Addr} {len cap : Nat} {zs : List Int} (h : IsRow .i64 w a len cap zs) : ∃ (nl : Bool) (l : List Int), rel (envOf w) (.sl nl l.length 1 (.ai l) false) (.slice a len cap) := by
  have hl : (zs.take len).length = len := by
    rcases h with ⟨_, rfl, _, rfl⟩ | ⟨_, _, h1, _, h3, _, _⟩
    · rfl
    · simp; omega
  refine ⟨a.isNone, zs.take len, ?_⟩
  rw [hl]
  exact row_rel h (by simp only [relC]; rfl)
theorem byte_rel (w : World) {n : Int} (h : (Lit.int .u8 n).wf = true) : ∃ x : UInt8, rel (envOf w) (.u8 x) (.int .u8 n) := by
  refine ⟨UInt8.ofInt n, ?_⟩
  simp only [rel, u8v, u8_ofInt]
  have h := byte_in h
  congr 1
  omega
theorem relL_nil' (E : Env) : relL E [] [] := by simp only [relL]
theorem relL_cons' {E : Env} {a : AV} {l : List AV} {u : Value} {us : List Value} (h : rel E a u) (k : relL E l us) : relL E (a :: l) (u :: us) := by simp only [relL]; exact ⟨_, _, rfl, h, k⟩
theorem rel_int' (E : Env) (n : Int) : rel E (.int n) (.int .i64 n) := by simp only [rel]; rfl
theorem rel_bool' (E : Env) (b : Bool) : rel E (.bool b) (.bool b) := by simp only [rel]
theorem rel_str' (E : Env) (s : ByteArray) : rel E (.str s.data.toList) (.string s) := by simp only [rel]; exact ⟨s, rfl, rfl⟩
end Go.Abs
