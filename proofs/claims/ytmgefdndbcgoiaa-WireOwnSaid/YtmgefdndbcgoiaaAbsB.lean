/-
  Own work. Conditions: none. Each operation does what the executor says (sixth part: slice expressions, places, the small ones). Each operation does what the executor says (seventh part: append). Each operation does what the exec
-/
import Derived.Test.YtmgefdndbcgoiaaAbsA
import Derived.Laws.Strings
import Derived.Laws.Small
import Derived.Deep.AppendSrc
import Derived.OrdersIn
set_option linter.unusedVariables false
set_option linter.unusedSimpArgs false
set_option linter.unnecessarySimpa false
namespace Go.Abs
section
variable {P : Program} {ti : Nat → TInf} {B : Base} {E : Env} {h : List AO} {w : World} {g : Nat → AV} {a : Act} {o : Oper} {sp : Sp}

theorem lenS_eq {lo : Option Int} {l r : Nat} (b1 : lo = none → l = 0) : lenS lo l r = r - l := by
 cases lo with
 | none => have := b1 rfl; simp only [lenS]; omega
 | some _ => rfl
theorem offS_eq {lo : Option Int} {o' l sz : Nat} (b1 : lo = none → l = 0) : offS lo o' l sz = o' + l * sz := by
 cases lo with
 | none => have := b1 rfl; subst this; simp [offS]
 | some _ => simp only [offS, mulz_eq]

theorem rel_cut_sl {c : AV} {n sz l r cap : Nat} {ad : Addr} {vs : List Value} {lo hi : Option Int} {full : Bool} (hcap : n ≤ cap) (hf : full = true → cap = n) (hat : vs = [] ∨ ∃ b o', ad = ⟨b, o', none⟩ ∧ E.at_ b o' vs) (hl : vs.length = n * sz) (hc : relC E c vs)
  (h1 : l ≤ r) (h2 : r ≤ n) (h3 : lo = none → l = 0) (h4 : hi = none → r = n) (h5 : fulS hi full = true → hi = none) :
  rel E (.sl false (r - l) sz (cutT c sz lo hi l r) (fulS hi full)) (.slice (some (if cap = l then ad else ad.add (l * sz))) (r - l) (cap - l)) := by
 simp only [rel, Bool.false_eq_true, if_false]
 have hr : r * sz ≤ n * sz := Nat.mul_le_mul_right _ h2
 have hlr : l * sz + (r - l) * sz = r * sz := by rw [← Nat.add_mul]; congr 1; omega
 refine ⟨_, _, (vs.drop (l * sz)).take ((r - l) * sz), rfl, by omega, fun hh => ?_, ?_, by simp; omega, cutT_ok hc hl h1 h2 h3 h4⟩
 ·cases hi with
  | none => have := hf hh; have := h4 rfl; omega
  | some _ => cases hh
 ·by_cases hz : (r - l) * sz = 0
  ·left; rw [hz]; simp
  ·have hrl : l < r := by
    rcases Nat.lt_or_ge l r with h | h
    ·exact h
    ·rw [show r - l = 0 by omega] at hz; simp at hz
   rcases hat with hat | ⟨b, o', rfl, cs, pre, post, k1, k2, k3⟩
   ·rw [hat] at hl; simp at hl
    have : (r - l) * sz ≤ n * sz := Nat.mul_le_mul_right _ (by omega)
    omega
   ·right
    rw [if_neg (by omega)]
    refine ⟨b, o' + l * sz, by rw [addr_add], cs, pre ++ vs.take (l * sz), (vs.drop (l * sz)).drop ((r - l) * sz) ++ post, k1, ?_, by simp; omega⟩
    rw [k2]
    conv => lhs; rw [← List.take_append_drop (l * sz) vs]
    conv => lhs; rw [← List.take_append_drop ((r - l) * sz) (vs.drop (l * sz))]
    simp only [List.append_assoc]

theorem rel_cut_ms {i e o' n sz l r cap : Nat} {ad : Addr} (hcap : n ≤ cap) (hep : e ≤ E.ep i) (hι : E.ι i ≠ none)
  (hh : e = E.ep i → ∃ b s, E.ι i = some (b, s) ∧ (cap = 0 ∨ ad = ⟨b, o', none⟩) ∧ o' + cap * sz ≤ s) (h1 : l ≤ r) (h2 : r ≤ n) :
  rel E (.ms false i e (o' + l * sz) (r - l) sz) (.slice (some (if cap = l then ad else ad.add (l * sz))) (r - l) (cap - l)) := by
 simp only [rel, Bool.false_eq_true, if_false]
 refine ⟨hep, hι, _, _, rfl, by omega, fun he => ?_⟩
 obtain ⟨b, s, k1, k2, k3⟩ := hh he
 have : l * sz + (cap - l) * sz = cap * sz := by rw [← Nat.add_mul]; congr 1; omega
 refine ⟨b, s, k1, ?_, by omega⟩
 by_cases hcl : cap = l
 ·left; omega
 ·right
  rcases k2 with rfl | rfl
  ·omega
  ·rw [if_neg hcl, addr_add]

theorem run_slice_slice {T e : TypeId} {i : TypeInfo} (hT : P.underlying T = some (.slice e)) (hi : P.info? e = some i) {ad : Option Addr} {n cap l r m : Nat} {lo hi' mx : Option Value} (hb : (Instr.sliceBounds true n cap lo hi' mx).run P w = .ok (l, r, m) w) :
  (Instr.sliceAt T (.slice ad n cap) lo hi' mx).run P w = .ok (.slice (if m = l then ad else ad.map (·.add (l * i.size))) (r - l) (m - l)) w := by
 simp [Instr.sliceAt, Instr.slice, run_underlying hT, hb, run_size w hi]

theorem map_add_some {ad : Addr} {cap l k : Nat} : (if cap = l then some ad else (some ad).map (·.add k)) = some (if cap = l then ad else ad.add k) := by split <;> rfl

theorem slcS_ok (hti : TIok P ti) (hg : ∀ k, rel E (g k) (a.tmps.getD k undef)) {T e : TypeId} (hd : (ti T).d = .slice e) (hde : (ti e).d ≠ .other) {x : Operand} {lo hi mx : Option Operand} {C : Option Prop} {R : AV}
  (hev : evSlice g (ti e).size (xv g (xof x)) (lo.map xof) (hi.map xof) (mx.map xof) = .v C R) (hC : holds C) :
  ∃ r, (Instr.sliceAt T (a.eval x) (lo.map a.eval) (hi.map a.eval) (mx.map a.eval)).run P w = .ok r w ∧ rel E R r := by
 have hT := (hti.get hd (by simp)).desc; rw [hd] at hT
 obtain ⟨⟨ie, ze, k1, k2, _⟩, _, _⟩ := hti.get (T := e) rfl hde
 have hv := rel_x hg x
 unfold evSlice at hev
 split at hev
 ·rename_i lo' hi' hlo hhi hmx
  have hmx' : mx = none := by
   cases mx with
   | none => rfl
   | some m => simp only [xi, Option.map_some] at hmx; split at hmx <;> cases hmx
  subst hmx'
  rw [xi_ok hg hlo, xi_ok hg hhi]
  split at hev
  ·rename_i nil n sz' c full hx
   rw [hx] at hv
   split at hev
   ·rename_i hsz
    split at hev
    rename_i C' l r hb
    cases hev
    obtain rfl := Nat.eq_of_beq_eq_true hsz
    obtain ⟨b1, b2⟩ := bnds_shape hb
    simp only [rel] at hv
    split at hv
    ·rename_i hn
     obtain ⟨hv, rfl, hc⟩ := hv
     obtain ⟨r1, r2, r3⟩ := run_bounds (P := P) (w := w) (isSl := true) (Nat.le_refl 0) hb hC
     have hl0 : l = 0 := by omega
     have hr0 : r = 0 := by omega
     subst hl0 hr0
     rw [hv]
     refine ⟨_, run_slice_slice hT k1 r1, ?_⟩
     have := cutT_ok hc (n := 0) (sz := (ti e).size) (by simp) (Nat.le_refl 0) (Nat.le_refl 0) b1 b2
     simp only [rel, hn, if_true, Nat.sub_zero]
     refine ⟨trivial, ?_, by simpa using this⟩
     cases lo' <;> rfl
    ·rename_i hn
     obtain ⟨ad, cap, vs, hv, h3, h4, h5, h6, h7⟩ := hv
     obtain ⟨r1, r2, r3⟩ := run_bounds (P := P) (w := w) (isSl := true) h3 hb hC
     rw [hv]
     refine ⟨_, run_slice_slice hT k1 r1, ?_⟩
     have hn' : nil = false := by simpa using hn
     subst hn'
     rw [map_add_some, k2]
     have key := rel_cut_sl (lo := lo') (hi := hi') (full := full) h3 h4 h5 h6 h7 r2 r3 b1 b2 (fun hh => by cases hi' with | none => rfl | some _ => cases hh)
     have e1 := lenS_eq (r := r) b1
     rw [e1]; exact key
   ·split at hev
    ·split at hev
     rename_i C' l r hb
     cases hev
     obtain ⟨b1, b2⟩ := bnds_shape hb
     have hv0 := hv
     simp only [rel, if_true] at hv
     obtain ⟨hv, rfl, hc⟩ := hv
     obtain ⟨r1, r2, r3⟩ := run_bounds (P := P) (w := w) (isSl := true) (Nat.le_refl 0) hb hC
     have hl0 : l = 0 := by omega
     have hr0 : r = 0 := by omega
     subst hl0 hr0
     rw [hv] at hv0 ⊢
     exact ⟨_, run_slice_slice hT k1 r1, hv0⟩
    ·cases hev
  ·rename_i nil i e' o' n sz' hx
   rw [hx] at hv
   split at hev
   ·rename_i hsz
    split at hev
    rename_i C' l r hb
    cases hev
    obtain rfl := Nat.eq_of_beq_eq_true hsz
    obtain ⟨b1, b2⟩ := bnds_shape hb
    have e1 := lenS_eq (r := r) b1
    have e2 := offS_eq (o' := o') (sz := (ti e).size) b1
    rw [e1, e2]
    simp only [rel] at hv
    split at hv
    ·rename_i hn
     obtain ⟨hv, rfl⟩ := hv
     obtain ⟨r1, r2, r3⟩ := run_bounds (P := P) (w := w) (isSl := true) (Nat.le_refl 0) hb hC
     have hl0 : l = 0 := by omega
     have hr0 : r = 0 := by omega
     subst hl0 hr0
     rw [hv]
     refine ⟨_, run_slice_slice hT k1 r1, ?_⟩
     simp only [rel, hn, if_true, Nat.sub_zero, and_true]
    ·rename_i hn
     obtain ⟨q1, q2, ad, cap, hv, h3, h4⟩ := hv
     obtain ⟨r1, r2, r3⟩ := run_bounds (P := P) (w := w) (isSl := true) h3 hb hC
     rw [hv]
     refine ⟨_, run_slice_slice hT k1 r1, ?_⟩
     have hn' : nil = false := by simpa using hn
     subst hn'
     rw [map_add_some, k2]
     exact rel_cut_ms h3 q1 q2 h4 r2 r3
   ·cases hev
  ·cases hev
 ·rename_i r' m' hlo hhi hmx
  have hlo' : lo = none := by
   cases lo with
   | none => rfl
   | some m => simp only [xi, Option.map_some] at hlo; split at hlo <;> cases hlo
  subst hlo'
  rw [xi_ok hg hhi, xi_ok hg hmx]
  have bd : ∀ {n cap : Nat}, n ≤ cap → (0 ≤ r' ∧ r' ≤ (n : Int) ∧ m' = r') → (Instr.sliceBounds true n cap none ((some r').map intv) ((some m').map intv)).run P w = .ok (0, r'.toNat, r'.toNat) w := fun {n cap} hn hh => by
   obtain ⟨h0, h1, rfl⟩ := hh
   have h2 := run_sliceBound (P := P) (w := w) (k := .i64) (code := .slice3Acap) h0 (show m' ≤ (cap : Int) by omega)
   have h3 := run_sliceBound (P := P) (w := w) (k := .i64) (y := m'.toNat) (code := .slice3B) h0 (by omega)
   simp [Instr.sliceBounds, intv, h2, h3]
  split at hev
  ·rename_i n sz' c full hx
   rw [hx] at hv
   split at hev
   ·rename_i hsz
    cases hev
    obtain rfl := Nat.eq_of_beq_eq_true hsz
    simp only [holds] at hC
    simp only [rel, Bool.false_eq_true, if_false] at hv
    obtain ⟨ad, cap, vs, hv, h3, h4, h5, h6, h7⟩ := hv
    rw [hv]
    refine ⟨_, run_slice_slice hT k1 (bd h3 hC), ?_⟩
    obtain ⟨c1, c2, c3⟩ := hC
    have hle : r'.toNat * (ti e).size ≤ n * (ti e).size := Nat.mul_le_mul_right _ (by omega)
    rw [map_add_some]
    simp only [rel, Bool.false_eq_true, if_false, Nat.sub_zero, Nat.zero_mul, mulz_eq]
    refine ⟨_, _, vs.take (r'.toNat * (ti e).size), rfl, Nat.le_refl _, fun _ => rfl, ?_, by simp; omega, ctakeT_ok h7 (by omega)⟩
    rcases h5 with rfl | ⟨b, o', rfl, cs, pre, post, y1, y2, y3⟩
    ·left; simp
    ·right
     refine ⟨b, o', by split <;> simp [addr_add], cs, pre, vs.drop (r'.toNat * (ti e).size) ++ post, y1, ?_, y3⟩
     rw [y2]
     conv => lhs; rw [← List.take_append_drop (r'.toNat * (ti e).size) vs]
     simp only [List.append_assoc]
   ·cases hev
  ·rename_i i e' o' n sz' hx
   rw [hx] at hv
   split at hev
   ·rename_i hsz
    cases hev
    obtain rfl := Nat.eq_of_beq_eq_true hsz
    simp only [holds] at hC
    simp only [rel, Bool.false_eq_true, if_false] at hv
    obtain ⟨q1, q2, ad, cap, hv, h3, h4⟩ := hv
    rw [hv]
    refine ⟨_, run_slice_slice hT k1 (bd h3 hC), ?_⟩
    obtain ⟨c1, c2, c3⟩ := hC
    rw [map_add_some]
    simp only [rel, Bool.false_eq_true, if_false, Nat.sub_zero, Nat.zero_mul]
    refine ⟨q1, q2, _, _, rfl, Nat.le_refl _, fun he => ?_⟩
    obtain ⟨b, s, y1, y2, y3⟩ := h4 he
    have hle : r'.toNat * (ti e).size ≤ cap * (ti e).size := Nat.mul_le_mul_right _ (by omega)
    refine ⟨b, s, y1, ?_, by omega⟩
    rcases y2 with rfl | rfl
    ·left; omega
    ·right; split <;> simp [addr_add]
   ·cases hev
  ·cases hev
 ·cases hev

theorem slcA_ok (m : Mem B E h w) (hti : TIok P ti) (hg : ∀ k, rel E (g k) (a.tmps.getD k undef)) {T e : TypeId} {n : Nat} (hd : (ti T).d = .arr n e) (hde : (ti e).d ≠ .other) {x : Operand} {lo hi : Option Operand} {C : Option Prop} {R : AV}
  (hev : ev sp g h (.slcA n (ti e).size (xof x) (lo.map xof) (hi.map xof)) = .v C R) (hC : holds C) :
  ∃ r, (Instr.sliceAt T (a.eval x) (lo.map a.eval) (hi.map a.eval) none).run P w = .ok r w ∧ rel E R r := by
 have hT := (hti.get hd (by simp)).desc; rw [hd] at hT
 obtain ⟨⟨ie, ze, k1, k2, _⟩, _, _⟩ := hti.get (T := e) rfl hde
 have hv := rel_x hg x
 simp only [ev] at hev
 split at hev
 ·rename_i i e' o' lo' hi' hx hlo hhi
  rw [xi_ok hg hlo, xi_ok hg hhi]
  rw [hx] at hv
  split at hev
  ·rename_i ob hob
   split at hev
   ·rename_i hep
    split at hev
    ·rename_i hfz
     generalize hb : bnds n lo' hi' = q at hev
     obtain ⟨C', l, r⟩ := q
     cases hev
     obtain ⟨hC1, hC⟩ := holds_both.1 hC
     simp only [holds, mulz_eq] at hC1
     have hob' : h[i]? = some ob := by rw [← hget_eq]; exact hob
     have he := Nat.eq_of_beq_eq_true hep
     obtain ⟨b1, b2⟩ := bnds_shape hb
     obtain ⟨r1, r2, r3⟩ := run_bounds (P := P) (w := w) (isSl := false) (Nat.le_refl n) hb hC
     simp only [rel] at hv
     obtain ⟨q1, q2, ⟨ad, hv⟩, q3⟩ := hv
     rw [hv]
     refine ⟨.slice (some (if n = l then ad else ad.add (l * ie.size))) (r - l) (n - l), by simp [Instr.sliceAt, run_underlying hT, Instr.sureAddr, r1, run_size w k1], ?_⟩
     rw [lenS_eq b1, offS_eq b1, k2]
     refine rel_cut_ms (Nat.le_refl n) q1 q2 (fun h' => ?_) r2 r3
     obtain ⟨b, s, y1, y2⟩ := q3 h'
     rw [hv] at y2; cases y2
     refine ⟨b, s, y1, .inr rfl, ?_⟩
     obtain ⟨_, b', s', z1, z2⟩ := m.obj i ob hob'
     rw [y1] at z1; cases z1
     rcases z2 with ⟨rfl, z2⟩ | ⟨z2, _⟩ | ⟨_, _, cur, T', fr, vs, post, g1, g2, g3, g4, g5, g6⟩
     ·have := relC_length z2; simp at this; omega
     ·rw [hfz] at z2; cases z2
     ·have h1 := relC_length g5
      have h2 : cur.toList.length = vs.length + post.length := by rw [g4]; simp
      simp at h2; omega
    ·cases hev
   ·cases hev
  ·cases hev
 ·cases hev

theorem slcT_ok (hti : TIok P ti) (hg : ∀ k, rel E (g k) (a.tmps.getD k undef)) {T : TypeId} (hd : (ti T).d = .str) {x : Operand} {lo hi : Option Operand} {C : Option Prop} {R : AV}
  (hev : ev sp g h (.slcT (xof x) (lo.map xof) (hi.map xof)) = .v C R) (hC : holds C) :
  ∃ r, (Instr.sliceAt T (a.eval x) (lo.map a.eval) (hi.map a.eval) none).run P w = .ok r w ∧ rel E R r := by
 have hT := (hti.get hd (by simp)).desc; rw [hd] at hT
 have hv := rel_x hg x
 simp only [ev] at hev
 split at hev
 ·rename_i t lo' hi' hx hlo hhi
  rw [xi_ok hg hlo, xi_ok hg hhi]
  rw [hx] at hv
  generalize hb : bnds t.length lo' hi' = q at hev
  obtain ⟨C', l, r⟩ := q
  cases hev
  obtain ⟨b1, b2⟩ := bnds_shape hb
  simp only [rel] at hv
  obtain ⟨s, hv, rfl⟩ := hv
  have hsz : s.data.toList.length = s.size := by rw [Array.length_toList]; rfl
  rw [hsz] at hb b2
  obtain ⟨r1, r2, r3⟩ := run_bounds (P := P) (w := w) (isSl := false) (Nat.le_refl s.size) hb hC
  rw [hv]
  refine ⟨.string (s.extract l r), by simp [Instr.sliceAt, Instr.slice, run_underlying hT, r1], ?_⟩
  simp only [rel]
  refine ⟨_, rfl, ?_⟩
  have hx : (s.extract l r).data.toList = (s.data.toList.drop l).take (r - l) := by
   rw [ByteArray.data_extract, Array.toList_extract, List.extract_eq_take_drop]
  rw [hx]
  cases lo' with
  | none =>
    obtain rfl := b1 rfl
    cases hi' with
    | none => obtain rfl := b2 rfl; simp only [cutS, List.drop_zero, Nat.sub_zero]; rw [List.take_of_length_le (by omega)]
    | some => simp only [cutS, List.drop_zero, Nat.sub_zero]
  | some =>
    cases hi' with
    | none => obtain rfl := b2 rfl; simp only [cutS]; rw [List.take_of_length_le (by simp)]
    | some => simp only [cutS]
 ·cases hev

theorem mapM_get {α β : Type} {f : α → Option β} : ∀ {l : List α} {m : List β} {k : Nat} {y : β}, l.mapM f = some m → m[k]? = some y → ∃ x, l[k]? = some x ∧ f x = some y
 | [], m, k, y, h, hy => by simp at h; subst h; simp at hy
 | a :: l, m, k, y, h, hy => by
   simp only [List.mapM_cons, Option.bind_eq_bind, Option.pure_def, Option.bind_eq_some_iff, Option.some.injEq] at h
   obtain ⟨b, hb, m', hm', rfl⟩ := h
   cases k with
   | zero => simp at hy; subst hy; exact ⟨a, rfl, hb⟩
   | succ k => exact mapM_get (k := k) hm' (by simpa using hy)

theorem fad_ok (hti : TIok P ti) {T : TypeId} {offs : List (Nat × Nat)} {f off z : Nat} (hd : (ti T).d = .struct offs) (hf : offs[f]? = some (off, z)) (hz : z ≠ 0) {A R : AV} {C : Option Prop} {v : Value} (hv : rel E A v)
  (hev : ev sp g h (.fad off (.c A)) = .v C R) : ∃ r, (Instr.fieldAt T v f).run P w = .ok r w ∧ rel E R r := by
 have hT := (hti.get hd (by simp)).desc; rw [hd] at hT
 obtain ⟨fs, hu, hm⟩ := hT
 obtain ⟨fld, k1, k2⟩ := mapM_get hm hf
 obtain ⟨i, k3, k4⟩ : ∃ i, P.info? fld.type = some i ∧ (fld.offset, i.size) = (off, z) := by
  cases hi : P.info? fld.type with
  | none => rw [hi] at k2; cases k2
  | some i => rw [hi] at k2; exact ⟨i, rfl, by simpa using k2⟩
 cases k4
 have k1' : fs[f]? = some fld := by simpa using k1
 have run : ∀ ad : Addr, (Instr.fieldAt T (.pointer (some ad)) f).run P w = .ok (.pointer (some (ad.add fld.offset))) w := fun ad => by
  simp [Instr.fieldAt, run_underlying hu, k1', Instr.sureAddr, fieldPlace, run_size w k3, hz]
 simp only [ev, xv] at hev
 split at hev
 ·rename_i i' e' o'
  cases hev
  simp only [rel] at hv ⊢
  obtain ⟨q1, q2, ⟨ad, rfl⟩, q3⟩ := hv
  refine ⟨_, run ad, q1, q2, ⟨_, rfl⟩, fun he => ?_⟩
  obtain ⟨b, s, y1, y2⟩ := q3 he
  cases y2
  exact ⟨b, s, y1, by rw [addr_add]⟩
 ·rename_i i' e' k' j' sz'
  cases hev
  simp only [rel] at hv ⊢
  obtain ⟨q1, q2, ⟨ad, rfl⟩, q3⟩ := hv
  refine ⟨_, run ad, q1, q2, ⟨_, rfl⟩, fun he => ?_⟩
  obtain ⟨b, s, y1, y2⟩ := q3 he
  cases y2
  exact ⟨b, s, y1, by rw [addr_add, Nat.add_assoc]⟩
 ·rename_i l
  split at hev
  ·rename_i hle
   cases hev
   rw [llen_eq] at hle
   simp only [rel, relC] at hv ⊢
   obtain ⟨b, o', vs, rfl, ⟨cs, pre, post, y1, y2, y3⟩, h1, h2⟩ := hv
   have := relL_length h1
   have hle' := Nat.le_of_ble_eq_true hle
   refine ⟨_, run _, b, o' + fld.offset, vs.drop fld.offset, by rw [addr_add], ⟨cs, pre ++ vs.take fld.offset, post, y1, ?_, by simp; omega⟩, by rw [ldrop_eq]; exact relL_drop h1 _, ones_sub h2 fun u hu => List.mem_of_mem_drop hu⟩
   rw [y2]
   conv => lhs; rw [← List.take_append_drop fld.offset vs]
   simp only [List.append_assoc]
  ·cases hev
 ·cases hev

theorem iadA_ok (hti : TIok P ti) {T e : TypeId} {n : Nat} (hd : (ti T).d = .arr n e) (hde : (ti e).d ≠ .other) (hn : ¬ n ≤ 1) {A I R : AV} {C : Option Prop} {v i : Value} (hv : rel E A v) (hi : rel E I i)
  (hev : ev sp g h (.iadA n (ti e).size (.c A) (.c I)) = .v C R) (hC : holds C) : ∃ r, (Instr.indexAt T v i).run P w = .ok r w ∧ rel E R r := by
 have hT := (hti.get hd (by simp)).desc; rw [hd] at hT
 obtain ⟨⟨ie, ze, k1, k2, _⟩, _, _⟩ := hti.get (T := e) rfl hde
 simp only [ev, xv] at hev
 split at hev
 ·rename_i j e' o' k
  cases hev
  simp only [holds] at hC
  simp only [rel, intv] at hv hi ⊢
  subst hi
  obtain ⟨q1, q2, ⟨ad, rfl⟩, q3⟩ := hv
  refine ⟨.pointer (some (ad.add (k.toNat * ie.size))), ?_, q1, q2, ⟨_, rfl⟩, fun he => ?_⟩
  ·simp [Instr.indexAt, asIntOf, run_underlying hT, Instr.sureAddr, hC, run_size w k1]
  ·obtain ⟨b, s, y1, y2⟩ := q3 he
   cases y2
   exact ⟨b, s, y1, by rw [addr_add, k2, mulz_eq]⟩
 ·cases hev

theorem elP_ok {j e o k sz : Nat} {v : Value} (r : rel E (.ptr j e (o + mulz k sz)) v) : rel E (elP h j e o k sz) v := by
 unfold elP
 split
 ·split
  ·rename_i hb
   obtain rfl := Nat.eq_of_beq_eq_true hb
   simp only [rel, mulz_eq, Nat.zero_add, Nat.add_zero] at r ⊢
   exact r
  ·exact r
 ·exact r
theorem iadS_ok (hti : TIok P ti) {T e : TypeId} (hd : (ti T).d = .slice e) (hde : (ti e).d ≠ .other) (hz : (ti e).size ≠ 0) {A I R : AV} {C : Option Prop} {v i : Value} (hv : rel E A v) (hi : rel E I i)
  (hev : ev sp g h (.iadS (ti e).size (.c A) (.c I)) = .v C R) (hC : holds C) : ∃ r, (Instr.indexAt T v i).run P w = .ok r w ∧ rel E R r := by
 have hT := (hti.get hd (by simp)).desc; rw [hd] at hT
 obtain ⟨⟨ie, ze, k1, k2, _⟩, _, _⟩ := hti.get (T := e) rfl hde
 have run : ∀ {ad : Addr} {k : Int} {n cap : Nat}, 0 ≤ k ∧ k < (n : Int) → (Instr.indexAt T (.slice (some ad) n cap) (intv k)).run P w = .ok (.pointer (some (ad.add (k.toNat * ie.size)))) w := fun hC => by
  simp [Instr.indexAt, intv, asIntOf, run_underlying hT, hC, run_size w k1]
 simp only [ev, xv] at hev
 split at hev
 ·rename_i nil n sz' c full k
  split at hev
  ·rename_i hsz
   cases hev
   obtain rfl := Nat.eq_of_beq_eq_true hsz
   simp only [holds] at hC
   simp only [rel] at hv hi ⊢
   subst hi
   split at hv
   ·obtain ⟨_, rfl, _⟩ := hv; omega
   ·obtain ⟨ad, cap, vs, rfl, h3, h4, h5, h6, h7⟩ := hv
    refine ⟨_, run hC, ?_⟩
    have hkn : (k.toNat + 1) * (ti e).size ≤ n * (ti e).size := Nat.mul_le_mul_right _ (by omega)
    have hkn' : k.toNat * (ti e).size + (ti e).size ≤ vs.length := by rw [Nat.succ_mul] at hkn; omega
    rcases h5 with rfl | ⟨b, o', rfl, cs, pre, post, y1, y2, y3⟩
    ·simp at hkn'; omega
    ·refine ⟨b, o' + k.toNat * (ti e).size, (vs.drop (k.toNat * (ti e).size)).take (ti e).size, by rw [addr_add, k2], ⟨cs, pre ++ vs.take (k.toNat * (ti e).size), (vs.drop (k.toNat * (ti e).size)).drop (ti e).size ++ post, y1, ?_, by simp; omega⟩, celT_ok h7 (by omega) hz⟩
     rw [y2]
     conv => lhs; rw [← List.take_append_drop (k.toNat * (ti e).size) vs]
     conv => lhs; rw [← List.take_append_drop (ti e).size (vs.drop (k.toNat * (ti e).size))]
     simp only [List.append_assoc]
  ·cases hev
 ·rename_i nil j e' o' n sz' k
  split at hev
  ·rename_i hsz
   cases hev
   obtain rfl := Nat.eq_of_beq_eq_true hsz
   simp only [holds] at hC
   simp only [rel] at hv hi ⊢
   subst hi
   split at hv
   ·obtain ⟨_, rfl⟩ := hv; omega
   ·obtain ⟨q1, q2, ad, cap, rfl, h3, h4⟩ := hv
    refine ⟨_, run hC, elP_ok ?_⟩
    simp only [rel]
    refine ⟨q1, q2, ⟨_, rfl⟩, fun he => ?_⟩
    obtain ⟨b, s, y1, y2, y3⟩ := h4 he
    rcases y2 with rfl | rfl
    ·omega
    ·exact ⟨b, s, y1, by rw [addr_add, k2, mulz_eq]⟩
  ·cases hev
 ·rename_i n k
  split at hev
  ·rename_i hsz
   cases hev
   have hsz := Nat.eq_of_beq_eq_true hsz
   simp only [holds] at hC
   simp only [rel] at hv hi ⊢
   subst hi
   rcases hv with ⟨_, rfl⟩ | ⟨ad, cap, rfl, h3, h4⟩
   ·omega
   ·refine ⟨_, run hC, ?_⟩
    rcases h4 with h4 | ⟨b, o', rfl, h4⟩
    ·omega
    ·exact ⟨b, o' + k.toNat, by rw [addr_add, k2, hsz, Nat.mul_one], by omega⟩
  ·cases hev
 ·cases hev

theorem idx_ok (hti : TIok P ti) {T : TypeId} (hd : (ti T).d = .str) {A I R : AV} {C : Option Prop} {v i : Value} (hv : rel E A v) (hi : rel E I i)
  (hev : ev sp g h (.idx (.c A) (.c I)) = .v C R) (hC : holds C) : ∃ r, (Instr.index T v i).run P w = .ok r w ∧ rel E R r := by
 have hT := (hti.get hd (by simp)).desc; rw [hd] at hT
 simp only [ev, xv] at hev
 split at hev
 ·rename_i l k
  cases hev
  simp only [holds] at hC
  simp only [rel, intv] at hv hi ⊢
  subst hi
  obtain ⟨s, rfl, rfl⟩ := hv
  have hsz : s.data.toList.length = s.size := by rw [Array.length_toList]; rfl
  rw [hsz] at hC
  rw [run_index_string (P := P) w T s .i64 k hT, dif_pos hC]
  refine ⟨_, rfl, ?_⟩
  have hlt : k.toNat < s.data.size := by have : s.data.size = s.size := rfl; omega
  simp only [u8v, List.getD, Array.getElem?_toList, Array.getElem?_eq_getElem hlt, Option.getD_some]
  rfl
 ·rename_i l k
  cases hev
  simp only [holds] at hC
  simp only [rel, u8v] at hv hi ⊢
  subst hi
  obtain ⟨s, rfl, rfl⟩ := hv
  have hsz : s.data.toList.length = s.size := by rw [Array.length_toList]; rfl
  rw [hsz] at hC
  have hC' : (0 : Int) ≤ (k.toNat : Int) ∧ (k.toNat : Int) < (s.size : Int) := ⟨by omega, by omega⟩
  rw [run_index_string (P := P) w T s .u8 (k.toNat : Int) hT, dif_pos hC']
  refine ⟨_, rfl, ?_⟩
  have hlt : k.toNat < s.data.size := by have : s.data.size = s.size := rfl; omega
  simp only [List.getD, Array.getElem?_toList, Array.getElem?_eq_getElem hlt, Option.getD_some]
  rfl
 ·cases hev

theorem ext_ok {k : Nat} {A R : AV} {C : Option Prop} {v : Value} (hv : rel E A v) (hev : ev sp g h (.ext (.c A) k) = .v C R) : ∃ r, (Instr.extract v k).run P w = .ok r w ∧ rel E R r := by
 simp only [ev, xv] at hev
 split at hev
 ·rename_i l
  split at hev
  ·rename_i u hu
   cases hev
   simp only [rel] at hv
   obtain ⟨vs, rfl, h1⟩ := hv
   rw [lget_eq] at hu
   obtain ⟨r, h2, h3⟩ := relL_get h1 hu
   exact ⟨r, by simp [Instr.extract, (show vs[k]? = some r by simpa using h2)], h3⟩
  ·cases hev
 ·cases hev

theorem lenT_ok (hti : TIok P ti) {T ty : TypeId} (hd : (ti T).d = .str) {A R : AV} {C : Option Prop} {v : Value} (hv : rel E A v) (hev : ev sp g h (.len true (.c A)) = .v C R) :
  ∃ r, (Builtin.len_ #[T] ty #[v]).run P w = .ok r w ∧ rel E R r := by
 have hT := (hti.get hd (by simp)).desc; rw [hd] at hT
 simp only [ev, xv] at hev
 split at hev
 ·cases hev
  simp only [rel, intv] at hv ⊢
  obtain ⟨s, rfl, rfl⟩ := hv
  refine ⟨_, run_len_string w T ty s hT, ?_⟩
  rw [Array.length_toList]; rfl
 ·cases hev
theorem lenS_ok (hti : TIok P ti) {T e ty : TypeId} (hd : (ti T).d = .slice e) {A R : AV} {C : Option Prop} {v : Value} (hv : rel E A v) (hev : ev sp g h (.len false (.c A)) = .v C R) :
  ∃ r, (Builtin.len_ #[T] ty #[v]).run P w = .ok r w ∧ rel E R r := by
 have hT := (hti.get hd (by simp)).desc; rw [hd] at hT
 have run : ∀ {ad : Option Addr} {n cap : Nat}, (Builtin.len_ #[T] ty #[.slice ad n cap]).run P w = .ok (intv n) w := by
  intro ad n cap; simp [Builtin.len_, run_underlying hT, goInt, intv]
 simp only [ev, xv] at hev
 split at hev
 ·cases hev
  simp only [rel] at hv ⊢
  split at hv
  ·obtain ⟨rfl, rfl, _⟩ := hv; exact ⟨_, run, rfl⟩
  ·obtain ⟨ad, cap, vs, rfl, _⟩ := hv; exact ⟨_, run, rfl⟩
 ·cases hev
  simp only [rel] at hv ⊢
  split at hv
  ·obtain ⟨rfl, rfl⟩ := hv; exact ⟨_, run, rfl⟩
  ·obtain ⟨_, _, ad, cap, rfl, _⟩ := hv; exact ⟨_, run, rfl⟩
 ·cases hev
  simp only [rel, relO8] at hv ⊢
  split at hv
  ·obtain ⟨rfl, rfl⟩ := hv; exact ⟨_, run, rfl⟩
  ·obtain ⟨ad, cap, vs, rfl, _⟩ := hv; exact ⟨_, run, rfl⟩
 ·cases hev
  simp only [rel] at hv ⊢
  rcases hv with ⟨rfl, rfl⟩ | ⟨ad, cap, rfl, _⟩
  ·exact ⟨_, run, rfl⟩
  ·exact ⟨_, run, rfl⟩
 ·cases hev

theorem un_ok {op : UnOp} {A R : AV} {C : Option Prop} {v : Value} (hv : rel E A v) (hev : evUn op A = .v C R) : ∃ r, (Op.unary op v).run P w = .ok r w ∧ rel E R r := by
 unfold evUn at hev
 split at hev
 ·cases hev; simp only [rel] at hv ⊢; subst hv; exact ⟨_, rfl, rfl⟩
 ·cases hev; simp only [rel, intv] at hv ⊢; subst hv; exact ⟨_, rfl, rfl⟩
 ·rename_i x
  cases hev; simp only [rel, u32v] at hv ⊢; subst hv
  refine ⟨_, rfl, ?_⟩
  have := UInt32.toNat_lt x
  rw [u32_wrap, UInt32.toNat_sub]; congr 1; simp; omega
 ·rename_i x
  cases hev; simp only [rel, u32v] at hv ⊢; subst hv
  refine ⟨.int .u32 (IntKind.u32.wrap ((BitVec.ofInt 32 4294967295 ^^^ BitVec.ofInt 32 (x.toNat : Int)).toNat : Int)), rfl, ?_⟩
  have h1 := UInt32.toNat_lt (~~~x)
  have h2 : (BitVec.ofInt 32 4294967295 ^^^ BitVec.ofInt 32 (x.toNat : Int)).toNat = (~~~x).toNat := by
   have : BitVec.ofInt 32 4294967295 = BitVec.allOnes 32 := by decide
   rw [this, BitVec.allOnes_xor, BitVec.ofInt_natCast]
   simp only [BitVec.toNat_not, BitVec.toNat_ofNat, UInt32.toNat_not]
   rw [Nat.mod_eq_of_lt (UInt32.toNat_lt x)]
  rw [h2, u32_wrap]; congr 1; omega
 ·cases hev

end
section
variable {P : Program} {ti : Nat → TInf} {B : Base} {E : Env} {h : List AO} {w : World} {g : Nat → AV} {a : Act} {o : Oper} {sp : Sp}

theorem src_ok (m : Mem B E h w) {sz k : Nat} {A d : AV} {D : Option Prop} (hs : srcS h sz A = some (D, k, d)) (hD : holds D) {v : Value} (hv : rel E A v) {tx : TypeId} (hk : (∃ e', P.underlying tx = some (.slice e')) ∨ P.underlying tx = some .string) :
  ∃ us, relC E d us ∧ Src P sz tx v k us w := by
 unfold srcS at hs
 split at hs
 ·rename_i l
  split at hs
  ·rename_i hz
   cases hs
   obtain rfl := Nat.eq_of_beq_eq_true hz
   simp only [rel] at hv
   obtain ⟨s, rfl, rfl⟩ := hv
   have hsz : s.data.toList.length = s.size := by rw [Array.length_toList]; rfl
   refine ⟨byteCells s, by simp only [relC]; rfl, ?_⟩
   rw [hsz]
   exact ⟨hk, fun _ => rfl, firstCells_string s w, firstCells_string s w.drew, by rw [byteCells_length, Nat.mul_one], fun u hu => by
    obtain ⟨_, _, rfl⟩ := List.mem_map.1 hu
    rfl⟩
  ·cases hs
 ·obtain ⟨ad, cap, vs, rfl, h1, h2, h3, h4⟩ := rdS_ok m hs hD hv
  have cells : ∀ w' : World, (∀ x, w'.cell? x = w.cell? x) → (Builtin.firstCells sz k (.slice ad k cap)).run P w' = .ok vs.toArray w' := fun w' hw => by
   cases ad with
   | none =>
     rcases h4 with rfl | ⟨_, _, h4, _⟩
     ·exact run_firstCells_none w' sz k k cap
     ·cases h4
   | some ad =>
     refine run_firstCells_some w' sz k ad k cap vs h3 fun j u hu => ?_
     rcases h4 with rfl | ⟨b, o', h4, h5⟩
     ·simp at hu
     ·cases h4; rw [addr_add, hw]; exact h5 j u hu
  exact ⟨vs, h2, hk, fun _ => rfl, cells w fun _ => rfl, cells w.drew fun _ => rfl, h3, (relC_iff.1 h2).2.2⟩

theorem run_append_zero (t tx ty e : TypeId) (i : TypeInfo) (ht : P.underlying t = some (.slice e)) (hi : P.info? e = some i) {base : Option Addr} {sLen sCap : Nat} {x : Value} (hs : Src P i.size tx x 0 [] w) (hr : sLen ≤ sCap) :
  (Builtin.append_ #[t, tx] ty #[.slice base sLen sCap, x]).run P w = .ok (.slice base sLen sCap) w := by
 rcases hs.kind with ⟨e', hk⟩ | hk <;> cases base <;> simp [Builtin.append_, run_underlying ht, run_underlying hk, sizeOf, typeInfo, hi, hs.len, hr, hs.cells, storeCells]

theorem run_append_room_fr (t tx ty e : TypeId) (i : TypeInfo) (ht : P.underlying t = some (.slice e)) (hi : P.info? e = some i) {b off sLen sCap n : Nat} {x : Value} {news : List Value} (hs : Src P i.size tx x n news w) (hroom : sLen + n ≤ sCap)
  {cur : Array Value} {T : TypeId} {fr : Nat × Nat} (hb : w.heap[b]? = some (.cells cur T fr)) (hfit : off + sLen * i.size + news.length ≤ cur.size) (hfr : ∀ k, k < cur.size → (decide (fr.1 ≤ k) && decide (k < fr.2)) = false) :
  (Builtin.append_ #[t, tx] ty #[.slice (some ⟨b, off, none⟩) sLen sCap, x]).run P w =
    .ok (.slice (some ⟨b, off, none⟩) (sLen + n) sCap) (w.setRow b (cur.toList.take (off + sLen * i.size) ++ news ++ cur.toList.drop (off + sLen * i.size + news.length)).toArray) := by
 have hst := run_storeCells_fr (P := P) b (off + sLen * i.size) T fr news 0 cur w hb (by simpa using hfit) hfr hs.one
 simp only [Nat.add_zero] at hst
 rcases hs.kind with ⟨e', hk⟩ | hk <;> simp [Builtin.append_, run_underlying ht, run_underlying hk, sizeOf, typeInfo, hi, hs.len, hroom, hs.cells, Addr.add_lit, hst]

theorem Mem.bump (m : Mem B E h w) {i b s : Nat} {ob : AO} (hi : h[i]? = some ob) (hι : E.ι i = some (b, s)) :
  E.le (E.name i b s (ob.ep + 1)) ∧ Mem B (E.name i b s (ob.ep + 1)) (h.set i { ob with ep := ob.ep + 1 }) w := by
 have hlt : i < h.length := (List.getElem?_eq_some_iff.1 hi).1
 have hep : E.ep i = ob.ep := (m.obj i ob hi).1
 have le := Env.le_name_next (b := b) (s := s) (show E.ep i < ob.ep + 1 by omega)
 have hιE : ∀ j, (E.name i b s (ob.ep + 1)).ι j = E.ι j := fun j => by
  simp only [Env.name]; split
  ·rename_i e; rw [e, hι]
  ·rfl
 have get : ∀ {k : Nat} {ok : AO}, (h.set i { ob with ep := ob.ep + 1 })[k]? = some ok → ∃ o', h[k]? = some o' ∧ o'.fz = ok.fz ∧ o'.c = ok.c ∧ (k ≠ i → o' = ok) ∧ (k = i → ok.ep = ob.ep + 1) := fun {k ok} hk => by
  by_cases e : k = i
  ·subst e; rw [List.getElem?_set_self hlt] at hk; cases hk; exact ⟨ob, hi, rfl, rfl, fun e => absurd rfl e, fun _ => rfl⟩
  ·rw [List.getElem?_set_ne (Ne.symm e)] at hk; exact ⟨ok, hk, rfl, rfl, fun _ => rfl, fun e' => absurd e' e⟩
 refine ⟨le, m.le.trans le, m.size, m.os, m.tape, m.output, m.keeps, m.sat, fun k ok hk => ?_, fun j k oj ok b1 s1 t1 hj hk fj fk hb hb' hs ht => ?_, m.newP, fun j hj => ?_, fun j hj => m.base j (by simpa using hj),
  m.xt.to rfl rfl (fun _ _ h => h) (fun _ _ h => h) (fun _ _ => rfl) fun k hk j oj b' s' hj fj hb' hs' => ?_⟩
 ·obtain ⟨o', h1, h2, h3, h4, h5⟩ := get hk
  obtain ⟨q1, b', s', q2, q3⟩ := m.obj k o' h1
  refine ⟨?_, b', s', by rw [hιE]; exact q2, ?_⟩
  ·by_cases e : k = i
   ·rw [h5 e]; simp [Env.name, e]
   ·rw [← h4 e]; simp [Env.name, e]; exact q1
  ·rw [← h2, ← h3]
   rcases q3 with ⟨g1, g2⟩ | ⟨g0, vs, g1, g2⟩ | ⟨g0, g1, cur, T, fr, vs, post, g2, g3, g4, g5, g6, g7, g8⟩
   ·exact .inl ⟨g1, relC.mono le _ _ g2⟩
   ·exact .inr (.inl ⟨g0, vs, g1.mono le, relC.mono le _ _ g2⟩)
   ·exact .inr (.inr ⟨g0, g1, cur, T, fr, vs, post, g2, g3, g4, g5, relC.mono le _ _ g6, g7, g8⟩)
 ·obtain ⟨oj', j1, j2, _⟩ := get hj
  obtain ⟨ok', k1, k2, _⟩ := get hk
  rw [hιE] at hb hb'
  exact m.inj j k oj' ok' b1 s1 t1 j1 k1 (j2.trans fj) (k2.trans fk) hb hb' hs ht
 ·simp at hj
  have := m.fresh j hj
  rw [hιE]
  refine ⟨this.1, ?_⟩
  simp only [Env.name]; rw [if_neg (by omega)]; exact this.2
 ·obtain ⟨oj', j1, j2, _⟩ := get hj
  rw [hιE] at hb'
  exact (m.xt.wl k hk).2.2.2 j oj' b' s' j1 (j2.trans fj) hb' hs'

theorem Mem.ghost (m : Mem B E h w) {c : AV} (hc : relC E c []) : E.le (E.name h.length 0 0 0) ∧ Mem B (E.name h.length 0 0 0) (h ++ [⟨0, c, false⟩]) w := by
 have le := Env.le_name_new (b := 0) (s := 0) (e := 0) (m.fresh h.length (Nat.le_refl _)).1
 have lens : ∀ {k : Nat} {ok : AO}, (h ++ [⟨0, c, false⟩])[k]? = some ok → (k = h.length ∧ ok = ⟨0, c, false⟩) ∨ (k < h.length ∧ h[k]? = some ok) := fun {k ok} hk => by
  rcases Nat.lt_or_ge k h.length with hlt | hge
  ·rw [List.getElem?_append_left hlt] at hk; exact .inr ⟨hlt, hk⟩
  ·have hl := (List.getElem?_eq_some_iff.1 hk).1
   simp at hl
   have : k = h.length := by omega
   subst this
   rw [List.getElem?_append_right (Nat.le_refl _)] at hk
   simp at hk
   exact .inl ⟨rfl, hk.symm⟩
 refine ⟨le, m.le.trans le, m.size, m.os, m.tape, m.output, m.keeps, m.sat, fun k ok hk => ?_, fun j k oj ok b s t hj hk fj fk hb hb' hs ht => ?_, m.newP, fun j hj => ?_, fun j hj => m.base j (by simp at hj; omega),
  m.xt.to rfl rfl (fun _ _ h => h) (fun _ _ h => h) (fun _ _ => rfl) fun k hk j oj b' s' hj fj hb' hs' => ?_⟩
 ·rcases lens hk with ⟨rfl, rfl⟩ | ⟨hlt, hk⟩
  ·exact ⟨by simp [Env.name], 0, 0, by simp [Env.name], .inl ⟨rfl, relC.mono le _ _ hc⟩⟩
  ·exact (m.obj k ok hk).mono le ⟨by simp [Env.name]; omega, by simp [Env.name]; omega⟩ fun b s _ _ _ hp _ => hp
 ·simp only [Env.name] at hb hb'
  split at hb
  ·cases hb; omega
  ·split at hb'
   ·cases hb'; omega
   ·rcases lens hj with ⟨rfl, _⟩ | ⟨_, hj⟩
    ·contradiction
    ·rcases lens hk with ⟨rfl, _⟩ | ⟨_, hk⟩
     ·contradiction
     ·exact m.inj j k oj ok b s t hj hk fj fk hb hb' hs ht
 ·simp at hj
  simp only [Env.name]
  rw [if_neg (by omega), if_neg (by omega)]
  exact m.fresh j (by omega)
 ·simp only [Env.name] at hb'
  split at hb'
  ·cases hb'; omega
  ·rcases lens hj with ⟨rfl, _⟩ | ⟨_, hj⟩
   ·contradiction
   ·exact (m.xt.wl k hk).2.2.2 j oj b' s' hj fj hb' hs'

structure AppT (P : Program) (ti : Nat → TInf) (t tx e : TypeId) where
 info : TypeInfo
 z : Value
 ht : P.underlying t = some (.slice e)
 hi : P.info? e = some info
 hz : info.zero = some z
 size : info.size = (ti e).size
 bytes : info.bytes = (ti e).bytes
 zs : z.cells.size = (ti e).size
 pos : (ti e).size ≠ 0
 bpos : (ti e).bytes ≠ 0
 hx : (∃ e', P.underlying tx = some (.slice e')) ∨ P.underlying tx = some .string

theorem size_grown {z : Value} {sz n c : Nat} (hz : z.cells.size = sz) (hn : n ≤ c) {xs : List Value} (hl : xs.length = n * sz) : (xs.toArray ++ Builtin.zeroCells z.cells (c - n)).size = c * sz := by
 rw [Array.size_append, size_zeroCells, hz, List.size_toArray, hl, ← Nat.add_mul]; congr 1; omega

theorem small_of {n by_ : Nat} (hb : by_ ≠ 0) (h : n * by_ ≤ 140737488355328) : (n : Int) ≤ 9223372036854775807 := by
 have : n * 1 ≤ n * by_ := Nat.mul_le_mul_left _ (by omega)
 omega

theorem ones_zero {t tx e : TypeId} (T : AppT P ti t tx e) : True := trivial

theorem appSl_ok (m : Mem B E h w) {t tx ty e : TypeId} (T : AppT P ti t tx e) {nil mm : Bool} {n k : Nat} {c d : AV} {us vs : List Value} {base : Option Addr} {x : Value}
  (hs : Src P (ti e).size tx x k us w) (hd : relC E d us) (hc : relC E c vs) (hl : vs.length = n * (ti e).size)
  (hold : ∀ w' : World, (∀ y, w'.cell? y = w.cell? y) → (Builtin.firstCells (ti e).size n (.slice base n n)).run P w' = .ok vs.toArray w') (hnil : nil = true → base = none ∧ n = 0) (hnn : nil = false → base ≠ none)
  (hself : rel E (.sl nil n (ti e).size c true) (.slice base n n))
  {D C : Option Prop} {R : AV} {h' : List AO} :
  (appSl h mm (ti e).size (ti e).bytes D k d nil n c = .v C R → holds C → ∃ r w', (Builtin.append_ #[t, tx] ty #[.slice base n n, x]).run P w = .ok r w' ∧ Post B E h R r w') ∧
  (appSl h mm (ti e).size (ti e).bytes D k d nil n c = .e C R h' → holds C → ∃ r w', (Builtin.append_ #[t, tx] ty #[.slice base n n, x]).run P w = .ok r w' ∧ Post B E h' R r w') := by
 obtain ⟨i, z, ht, hi, hz, hsz, hby, hzs, hpos, hbpos, hkx⟩ := T
 have k0 : k = 0 → us = [] := fun hk => by have := hs.newsLen; rw [hk] at this; simpa using this
 have zero : k = 0 → (Builtin.append_ #[t, tx] ty #[.slice base n n, x]).run P w = .ok (.slice base n n) w := fun hk => by
  have hs' := hs
  rw [k0 hk, hk] at hs'
  exact run_append_zero t tx ty e i ht hi (by rw [hsz]; exact hs') (Nat.le_refl n)
 have grow : 0 < k → (n + k) * (ti e).bytes ≤ 140737488355328 → (Builtin.append_ #[t, tx] ty #[.slice base n n, x]).run P w = .ok (.slice (some ⟨w.heap.size, 0, none⟩) (n + k) (grownCap w (n + k) n e))
   (w.drew.alloc (.cells ((vs ++ us).toArray ++ Builtin.zeroCells z.cells (grownCap w (n + k) n e - (n + k))) e)) := fun hk hb => by
  refine run_append_grow_src w t tx ty e i z ht hi hz base n n vs (by rw [hsz]; exact hold w.drew fun _ => rfl) x k us (by rw [hsz]; exact hs) (by omega) (small_of hbpos hb) ?_
  rw [hby]; exact growslice_fits (by omega) hb
 have hge := grownCap_ge w (n + k) n e
 have hlen : (vs ++ us).length = (n + k) * (ti e).size := by rw [List.length_append, hl, hs.newsLen, Nat.add_mul]
 have hnilk : 0 < k → nilK nil k = false := fun hk => by
  cases nil
  ·rfl
  ·cases k with
   | zero => omega
   | succ k => rfl
 have hnil0 : k = 0 → nilK nil k = nil := fun hk => by subst hk; cases nil <;> rfl
 constructor
 ·intro hev hC
  unfold appSl at hev
  split at hev
  ·split at hev
   ·rename_i c' hc'
    cases hev
    obtain ⟨_, hC⟩ := holds_both.1 hC
    have hcc := relC_app hc' hc hd
    rcases Nat.eq_zero_or_pos k with hk | hk
    ·refine ⟨_, _, zero hk, E, Env.le.refl E, m, ?_⟩
     rw [hnil0 hk]
     rw [k0 hk, List.append_nil] at hcc
     subst hk
     simp only [rel, Nat.add_zero] at hself ⊢
     split
     ·rename_i hn; rw [if_pos hn] at hself; obtain ⟨q1, q2, q3⟩ := hself
      refine ⟨q1, q2, ?_⟩
      have : vs = [] := by rw [q2] at hl; simpa using hl
      rw [this] at hcc; exact hcc
     ·rename_i hn; rw [if_neg hn] at hself
      obtain ⟨ad, cap, vs', q1, q2, q3, q4, q5, q6⟩ := hself
      refine ⟨ad, cap, vs', q1, q2, (fun hh => Bool.noConfusion hh), q4, q5, ?_⟩
      have := relC_app hc' q6 (show relC E d [] by rw [← k0 rfl]; exact hd)
      rwa [List.append_nil] at this
    ·refine ⟨_, _, grow hk hC, ?_⟩
     rw [hnilk hk]
     exact Post.new_sl' m.drew (T := e) (fr := (0, 0)) (full := false) (post := (Builtin.zeroCells z.cells (grownCap w (n + k) n e - (n + k))).toList) (by simp) hcc hlen hge (fun h => by cases h)
   ·cases hev
  ·split at hev
   ·cases hev
   ·split at hev <;> cases hev
 ·intro hev hC
  unfold appSl at hev
  split at hev
  ·split at hev <;> cases hev
  ·split at hev
   ·rename_i hb0
    obtain rfl := Nat.eq_of_beq_eq_true hb0
    cases hev
    obtain ⟨_, hC⟩ := holds_both.1 hC
    simp only [holds] at hC
    have hvs : vs = [] := by simpa using hl
    rcases Nat.eq_zero_or_pos k with hk | hk
    ·rw [hnil0 hk]
     obtain ⟨le, m'⟩ := m.ghost (c := d) (by rw [← k0 hk]; exact hd)
     refine ⟨_, _, zero hk, _, le, by rw [hsnoc_eq]; exact m', ?_⟩
     subst hk
     simp only [rel]
     split
     ·rename_i hn; rw [(hnil hn).1]; simp
     ·rename_i hn
      cases base with
      | none => exact absurd rfl (hnn (by simpa using hn))
      | some ad =>
        simp only [Env.name, hlen_eq, if_true]
        exact ⟨Nat.le_refl _, by simp, ad, 0, rfl, Nat.le_refl _, fun _ => ⟨0, 0, rfl, .inl rfl, by simp⟩⟩
    ·have hg := grow hk (by simpa using hC)
     rw [hnilk hk]
     refine ⟨_, _, hg, ?_⟩
     rw [hvs, List.nil_append, Nat.zero_add] at *
     exact Post.new_ms m.drew (T := e) (fr := (0, 0)) (vs := us) (post := (Builtin.zeroCells z.cells (grownCap w k 0 e - k)).toList) (by simp) hd hge (by rw [size_grown hzs hge hs.newsLen]; exact Nat.le_refl _) (.inl rfl)
   ·split at hev
    ·rename_i c' hc'
     cases hev
     obtain ⟨_, hC⟩ := holds_both.1 hC
     simp only [holds] at hC
     refine ⟨_, _, grow hC.1 hC.2, ?_⟩
     exact Post.new_ms m.drew (T := e) (fr := (0, 0)) (vs := vs ++ us) (post := (Builtin.zeroCells z.cells (grownCap w (n + k) n e - (n + k))).toList) (by simp) (relC_app hc' hc hd) hge (by rw [size_grown hzs hge hlen]; exact Nat.le_refl _) (.inl rfl)
    ·cases hev

end
section
variable {P : Program} {ti : Nat → TInf} {B : Base} {E : Env} {h : List AO} {w : World} {g : Nat → AV} {a : Act} {o : Oper} {sp : Sp}

theorem nilK_pos {nil : Bool} {k : Nat} (hk : 0 < k) : nilK nil k = false := by
 cases nil
 ·rfl
 ·cases k with
  | zero => omega
  | succ k => rfl
theorem nilK_zero {nil : Bool} : nilK nil 0 = nil := by cases nil <;> rfl

theorem Mem.cutC (m : Mem B E h w) {i : Nat} {ob : AO} {c' : AV} (hi : h[i]? = some ob) (hf : ob.fz = false) (hc : ∀ vs, relC E ob.c vs → ∃ us rest, vs = us ++ rest ∧ relC E c' us) : Mem B E (h.set i { ob with c := c' }) w := by
 have hlt := (List.getElem?_eq_some_iff.1 hi).1
 have get : ∀ {k : Nat} {ok : AO}, (h.set i { ob with c := c' })[k]? = some ok → (k = i ∧ ok = { ob with c := c' }) ∨ (k ≠ i ∧ h[k]? = some ok) := fun {k ok} hk => by
  by_cases e : k = i
  ·subst e; rw [List.getElem?_set_self hlt] at hk; cases hk; exact .inl ⟨rfl, rfl⟩
  ·rw [List.getElem?_set_ne (Ne.symm e)] at hk; exact .inr ⟨e, hk⟩
 refine ⟨m.le, m.size, m.os, m.tape, m.output, m.keeps, m.sat, fun k ok hk => ?_, fun j k oj ok b1 s1 t1 hj hk fj fk hb hb' hs ht => ?_, m.newP, fun j hj => m.fresh j (by simpa using hj), fun j hj => m.base j (by simpa using hj),
  m.xt.to rfl rfl (fun _ _ h => h) (fun _ _ h => h) (fun _ _ => rfl) fun k hk j oj b' s' hj fj hb' hs' => ?_⟩
 ·rcases get hk with ⟨rfl, rfl⟩ | ⟨_, hk⟩
  ·obtain ⟨q1, b', s', q2, q3⟩ := m.obj _ ob hi
   refine ⟨q1, b', s', q2, ?_⟩
   rcases q3 with ⟨g1, g2⟩ | ⟨g0, _⟩ | ⟨g0, g1, cur, T, fr, vs, post, g2, g3, g4, g5, g6, g7, g8⟩
   ·obtain ⟨us, rest, e, hu⟩ := hc [] g2
    have : us = [] := (List.append_eq_nil_iff.1 e.symm).1
    subst this
    exact .inl ⟨g1, hu⟩
   ·rw [hf] at g0; cases g0
   ·obtain ⟨us, rest, rfl, hu⟩ := hc vs g6
    exact .inr (.inr ⟨hf, g1, cur, T, fr, us, rest ++ post, g2, g3, g4, by rw [g5, List.append_assoc], hu, g7, g8⟩)
  ·exact m.obj _ ok hk
 ·have fix : ∀ {k : Nat} {ok : AO}, (h.set i { ob with c := c' })[k]? = some ok → ok.fz = false → ∃ o', h[k]? = some o' ∧ o'.fz = false := fun {k ok} hk fk => by
   rcases get hk with ⟨rfl, rfl⟩ | ⟨_, hk⟩
   ·exact ⟨ob, hi, hf⟩
   ·exact ⟨ok, hk, fk⟩
  obtain ⟨oj', hj', fj'⟩ := fix hj fj
  obtain ⟨ok', hk', fk'⟩ := fix hk fk
  exact m.inj j k oj' ok' b1 s1 t1 hj' hk' fj' fk' hb hb' hs ht
 ·rcases get hj with ⟨rfl, rfl⟩ | ⟨_, hj⟩
  ·exact (m.xt.wl k hk).2.2.2 _ ob b' s' hi hf hb' hs'
  ·exact (m.xt.wl k hk).2.2.2 j oj b' s' hj fj hb' hs'

theorem appMs_core (m : Mem B E h w) {t tx ty e : TypeId} (T : AppT P ti t tx e) {nil : Bool} {i n k : Nat} {c d : AV} {us : List Value} {v x : Value} {ob : AO}
  (hs : Src P (ti e).size tx x k us w) (hd : relC E d us) (hv : rel E (.ms nil i ob.ep 0 n (ti e).size) v) (hob' : h[i]? = some ob) (hfz : ob.fz = false) (hc : capp ob.c d = some c) (hn : n * (ti e).size = clen ob.c) (hb : (n + k) * (ti e).bytes ≤ 140737488355328) :
  ∃ r w', (Builtin.append_ #[t, tx] ty #[v, x]).run P w = .ok r w' ∧ Post B E (h.set i ⟨ob.ep + 1, c, false⟩) (.ms (nilK nil k) i (ob.ep + 1) 0 (n + k) (ti e).size) r w' := by
 obtain ⟨inf, z, ht, hi, hz, hsz, hby, hzs, hpos, hbpos, hkx⟩ := T
 have ho := m.obj i ob hob'
 obtain ⟨hE, b, s, hι, hrow⟩ := ho
 have k0 : k = 0 → us = [] := fun hk => by have := hs.newsLen; rw [hk] at this; simpa using this
 have bump := m.bump hob' hι
 -- what the slice is
 have hv' : ∃ base cap, v = .slice base n cap ∧ n ≤ cap ∧ cap * (ti e).size ≤ s ∧ (nil = true → base = none ∧ n = 0 ∧ cap = 0) ∧ (nil = false → ∃ ad, base = some ad ∧ (cap = 0 ∨ ad = ⟨b, 0, none⟩)) := by
  simp only [rel] at hv
  split at hv
  ·rename_i hn'; obtain ⟨rfl, rfl⟩ := hv
   exact ⟨none, 0, rfl, Nat.le_refl _, by simp, fun _ => ⟨rfl, rfl, rfl⟩, fun h => by rw [hn'] at h; cases h⟩
  ·rename_i hn'
   obtain ⟨_, _, ad, cap, rfl, h3, h4⟩ := hv
   obtain ⟨b', s', h5, h6, h7⟩ := h4 hE.symm
   rw [hι] at h5; cases h5
   exact ⟨some ad, cap, rfl, h3, by omega, fun h => absurd h hn', fun _ => ⟨ad, rfl, h6⟩⟩
 obtain ⟨base, cap, rfl, hcap, hcs, hnil, hnn⟩ := hv'
 rcases Nat.eq_zero_or_pos k with hk | hk
 ·-- nothing is appended
  subst hk
  have hus := k0 rfl
  subst hus
  refine ⟨_, _, run_append_zero t tx ty e inf ht hi (by rw [hsz]; exact hs) hcap, _, bump.1, ?_, ?_⟩
  ·have hm := bump.2
   have he : (⟨ob.ep + 1, c, false⟩ : AO) = ⟨ob.ep + 1, c, ob.fz⟩ := by rw [hfz]
   refine ⟨hm.le, hm.size, hm.os, hm.tape, hm.output, hm.keeps, hm.sat, fun j oj hj => ?_, fun j l oj ol b1 s1 t1 hj hl fj fl => ?_, hm.newP, fun j hj => hm.fresh j (by simpa using hj), fun j hj => hm.base j (by simpa using hj),
    hm.xt.to rfl rfl (fun _ _ h => h) (fun _ _ h => h) (fun _ _ => rfl) fun k hk j oj b' s' hj fj hb' hs' => ?_⟩
   ·by_cases e' : j = i
    ·subst e'
     have hlt := (List.getElem?_eq_some_iff.1 hob').1
     rw [List.getElem?_set_self hlt] at hj
     cases hj
     have := hm.obj j { ob with ep := ob.ep + 1 } (by rw [List.getElem?_set_self hlt])
     have tr : ∀ vs, relC (E.name j b s (ob.ep + 1)) ob.c vs → relC (E.name j b s (ob.ep + 1)) c vs := fun vs hvs => by
      have := relC_app hc hvs (relC.mono bump.1 _ _ hd)
      rwa [List.append_nil] at this
     obtain ⟨q1, b', s', q2, q3⟩ := this
     refine ⟨q1, b', s', q2, ?_⟩
     rcases q3 with ⟨g1, g2⟩ | ⟨g0, _⟩ | ⟨g0, g1, cur, T, fr, vs, post, g2, g3, g4, g5, g6, g7, g8⟩
     ·exact .inl ⟨g1, tr _ g2⟩
     ·exact absurd (hfz.symm.trans g0) (by simp)
     ·exact .inr (.inr ⟨rfl, g1, cur, T, fr, vs, post, g2, g3, g4, g5, tr _ g6, g7, g8⟩)
    ·rw [List.getElem?_set_ne (Ne.symm e')] at hj
     exact hm.obj j oj (by rw [List.getElem?_set_ne (Ne.symm e')]; exact hj)
   ·have get : ∀ {k : Nat} {ok : AO}, (h.set i ⟨ob.ep + 1, c, false⟩)[k]? = some ok → ok.fz = false → ∃ o', (h.set i { ob with ep := ob.ep + 1 })[k]? = some o' ∧ o'.fz = false := fun {k ok} hk fk => by
     by_cases e : k = i
     ·subst e; exact ⟨{ ob with ep := ob.ep + 1 }, by rw [List.getElem?_set_self (List.getElem?_eq_some_iff.1 hob').1], hfz⟩
     ·rw [List.getElem?_set_ne (Ne.symm e)] at hk; exact ⟨ok, by rw [List.getElem?_set_ne (Ne.symm e)]; exact hk, fk⟩
    obtain ⟨oj', hj', fj'⟩ := get hj fj
    obtain ⟨ol', hl', fl'⟩ := get hl fl
    exact hm.inj j l oj' ol' b1 s1 t1 hj' hl' fj' fl'
   ·obtain ⟨o', hj', fj'⟩ : ∃ o', (h.set i { ob with ep := ob.ep + 1 })[j]? = some o' ∧ o'.fz = false := by
     by_cases e : j = i
     ·subst e; exact ⟨{ ob with ep := ob.ep + 1 }, by rw [List.getElem?_set_self (List.getElem?_eq_some_iff.1 hob').1], hfz⟩
     ·rw [List.getElem?_set_ne (Ne.symm e)] at hj; exact ⟨oj, by rw [List.getElem?_set_ne (Ne.symm e)]; exact hj, fj⟩
    exact (hm.xt.wl k hk).2.2.2 j o' b' s' hj' fj' hb' hs'
  ·rw [nilK_zero]
   simp only [rel, Nat.add_zero]
   split
   ·rename_i hn'; obtain ⟨rfl, rfl, rfl⟩ := hnil hn'; simp
   ·rename_i hn'
    obtain ⟨ad, rfl, h6⟩ := hnn (by simpa using hn')
    simp only [Env.name, if_true]
    exact ⟨Nat.le_refl _, by simp, ad, cap, rfl, hcap, fun _ => ⟨b, s, rfl, h6, by omega⟩⟩
 ·rw [nilK_pos hk]
  have rowv : ∃ vs, relC E ob.c vs ∧ vs.length = n * (ti e).size ∧ (s = 0 → vs = []) ∧ (0 < s → ∃ cur T fr post, w.heap[b]? = some (.cells cur T fr) ∧ cur.size = s ∧ (∀ o, o < s → (decide (fr.1 ≤ o) && decide (o < fr.2)) = false) ∧ cur.toList = vs ++ post) := by
   rcases hrow with ⟨rfl, g2⟩ | ⟨g0, _⟩ | ⟨g0, g1, cur, T, fr, vs, post, g2, g3, g4, g5, g6, g7, g8⟩
   ·exact ⟨[], g2, by rw [hn, ← relC_length g2], fun _ => rfl, fun h => by omega⟩
   ·rw [hfz] at g0; cases g0
   ·exact ⟨vs, g6, by rw [hn, ← relC_length g6], fun h => by omega, fun _ => ⟨cur, T, fr, post, g2, g3, g4.free, g5⟩⟩
  obtain ⟨vs, hvs, hvl, hs0, hsp⟩ := rowv
  have hcc := relC_app hc hvs hd
  have hlen : (vs ++ us).length = (n + k) * (ti e).size := by rw [List.length_append, hvl, hs.newsLen, Nat.add_mul]
  by_cases hroom : n + k ≤ cap
  ·-- there is room
   have hc0 : (n + k) * (ti e).size ≤ cap * (ti e).size := Nat.mul_le_mul_right _ hroom
   have hp1 : 0 < (n + k) * (ti e).size := Nat.mul_pos (by omega) (by omega)
   have hspos : 0 < s := by omega
   obtain ⟨cur, T, fr, post, g2, g3, g4, g5⟩ := hsp hspos
   have hnf : nil = false := by
    cases nil
    ·rfl
    ·obtain ⟨_, _, hc'⟩ := hnil rfl; omega
   obtain ⟨ad, rfl, h6⟩ := hnn hnf
   obtain rfl : ad = ⟨b, 0, none⟩ := by
    rcases h6 with h6 | h6
    ·omega
    ·exact h6
   have hul := hs.newsLen
   have hnk : n * (ti e).size + k * (ti e).size = (n + k) * (ti e).size := by rw [Nat.add_mul]
   have hrun := run_append_room_fr (P := P) (w := w) t tx ty e inf ht hi (b := b) (off := 0) (sLen := n) (sCap := cap) (n := k) (x := x) (news := us) (by rw [hsz]; exact hs) hroom g2 (by rw [hsz]; omega) (by rw [g3]; exact g4)
   rw [hsz, Nat.zero_add] at hrun
   refine ⟨_, _, hrun, ?_⟩
   have hcl : cur.size = vs.length + post.length := by rw [← Array.length_toList, g5]; simp
   have hnew : (cur.toList.take (n * (ti e).size) ++ us ++ cur.toList.drop (n * (ti e).size + us.length)) = (vs ++ us) ++ post.drop us.length := by
    rw [g5, ← hvl, List.take_left, List.drop_append, List.drop_eq_nil_of_le (show vs.length ≤ vs.length + us.length by omega), List.nil_append, show vs.length + us.length - vs.length = us.length by omega]
   have hm := m.writeO (c' := c) hob' hfz hι hspos (cur' := (cur.toList.take (n * (ti e).size) ++ us ++ cur.toList.drop (n * (ti e).size + us.length)).toArray) (T := T) (fr := fr) (post' := post.drop us.length) (vs' := vs ++ us)
    (w' := w.setRow b (cur.toList.take (n * (ti e).size) ++ us ++ cur.toList.drop (n * (ti e).size + us.length)).toArray)
    ⟨cur, g2, by rw [hnew]; simp; omega⟩ (setRow_heap w b cur _ T fr g2) (by simp) (fun k hk => setRow_other w b k _ hk) rfl rfl rfl (by simpa using hnew) hcc
   have hlt := (List.getElem?_eq_some_iff.1 hob').1
   have hm2 := hm.bump (i := i) (ob := { ob with c := c }) (by rw [List.getElem?_set_self hlt]) hι
   refine ⟨_, hm2.1, ?_, ?_⟩
   ·have := hm2.2
    rw [List.set_set] at this
    have he : (⟨ob.ep + 1, c, false⟩ : AO) = ⟨ob.ep + 1, c, ob.fz⟩ := by rw [hfz]
    rw [he]; exact this
   ·simp only [rel, Bool.false_eq_true, if_false, Env.name, if_true]
    exact ⟨Nat.le_refl _, by simp, _, cap, rfl, hroom, fun _ => ⟨b, s, rfl, .inr rfl, by omega⟩⟩
  ·-- it grows
   have hold : (Builtin.firstCells (ti e).size n (.slice base n cap)).run P w.drew = .ok vs.toArray w.drew := by
    cases base with
    | none =>
      have hnt : nil = true := by
       cases nil
       ·obtain ⟨ad, h, _⟩ := hnn rfl; cases h
       ·rfl
      obtain ⟨_, rfl, _⟩ := hnil hnt
      have : vs = [] := by simpa using hvl
      subst this
      exact run_firstCells_none w.drew _ _ _ _
    | some ad =>
      have hnf : nil = false := by
       cases nil
       ·rfl
       ·obtain ⟨h, _⟩ := hnil rfl; cases h
      obtain ⟨ad', h1, h6⟩ := hnn hnf
      cases h1
      refine run_firstCells_some w.drew _ _ ad n cap vs hvl fun j u hu => ?_
      by_cases hsz0 : s = 0
      ·rw [hs0 hsz0] at hu; simp at hu
      ·obtain ⟨cur, T, fr, post, g2, g3, g4, g5⟩ := hsp (by omega)
       rcases h6 with h6 | rfl
       ·have : n = 0 := by omega
        subst this
        have : vs = [] := by simpa using hvl
        rw [this] at hu; simp at hu
       ·rw [addr_add, Nat.zero_add]
        show w.cell? _ = _
        rw [cell_of_row w b j cur T fr g2, ← Array.getElem?_toList, g5, List.getElem?_append_left (List.getElem?_eq_some_iff.1 hu).1]
        exact hu
   have hrun := run_append_grow_src (P := P) w t tx ty e inf z ht hi hz base n cap vs (by rw [hsz]; exact hold) x k us (by rw [hsz]; exact hs) (by omega) (small_of hbpos hb) (by rw [hby]; exact growslice_fits (by omega) hb)
   have hge := grownCap_ge w (n + k) cap e
   have hsize := size_grown hzs hge hlen
   have hp1 : 0 < (n + k) * (ti e).size := Nat.mul_pos (by omega) (by omega)
   have hp2 : (n + k) * (ti e).size ≤ grownCap w (n + k) cap e * (ti e).size := Nat.mul_le_mul_right _ hge
   obtain ⟨le, hm⟩ := m.drew.moveO (c' := c) hob' (cs := (vs ++ us).toArray ++ Builtin.zeroCells z.cells (grownCap w (n + k) cap e - (n + k))) (T := e) (vs' := vs ++ us) (post' := (Builtin.zeroCells z.cells (grownCap w (n + k) cap e - (n + k))).toList) (by simp) (by omega) hcc
   refine ⟨_, _, hrun, _, le, hm, ?_⟩
   simp only [rel, Bool.false_eq_true, if_false, Env.name, if_true]
   exact ⟨Nat.le_refl _, by simp, _, _, rfl, hge, fun _ => ⟨_, _, rfl, .inr rfl, by omega⟩⟩

theorem appMs_ok (m : Mem B E h w) {t tx ty e : TypeId} (T : AppT P ti t tx e) {nil : Bool} {i ep n k : Nat} {d : AV} {us : List Value} {v x : Value}
  (hs : Src P (ti e).size tx x k us w) (hd : relC E d us) (hv : rel E (.ms nil i ep 0 n (ti e).size) v) {D C : Option Prop} {R : AV} {h' : List AO}
  (hev : appMs h (ti e).size (ti e).bytes D k d nil i ep n = .e C R h') (hC : holds C) : ∃ r w', (Builtin.append_ #[t, tx] ty #[v, x]).run P w = .ok r w' ∧ Post B E h' R r w' := by
 unfold appMs at hev
 split at hev
 ·rename_i ob hob
  split at hev
  ·rename_i hep
   split at hev
   ·rename_i hfz
    split at hev
    ·rename_i c hc
     cases hev
     obtain ⟨_, hC⟩ := holds_both.1 hC
     simp only [holds, mulz_eq] at hC
     obtain ⟨hn, hb⟩ := hC
     have hob' : h[i]? = some ob := by rw [← hget_eq]; exact hob
     obtain rfl := Nat.eq_of_beq_eq_true hep
     rw [hset_eq]
     have hlt := (List.getElem?_eq_some_iff.1 hob').1
     have m0 : Mem B E (h.set i { ob with c := ctakeT0 ob.c n }) w := by
      refine m.cutC hob' hfz fun vs hvs => ?_
      rw [ctakeT0_eq]
      split
      ·refine ⟨[], vs, rfl, ?_⟩
       cases hcc : ob.c <;> rw [hcc] at hvs <;> simp only [relC] at hvs <;> simp only [relC, relL, List.map_nil, true_and]
       case agg => exact fun u hu => by simp at hu
       exact ⟨by simp only [flatF, relFL], fun u hu => by simp at hu⟩
      ·exact ⟨vs, [], by simp, hvs⟩
     have := appMs_core m0 T (ty := ty) (v := v) (nil := nil) (n := n) (i := i) hs hd hv (ob := { ob with c := ctakeT0 ob.c n }) (by rw [List.getElem?_set_self hlt]) hfz hc hn hb
     rw [List.set_set] at this
     exact this
    ·cases hev
   ·cases hev
  ·cases hev
 ·cases hev

theorem app_ok (m : Mem B E h w) {t tx ty e : TypeId} (T : AppT P ti t tx e) {mm : Bool} {A Y : AV} {v x : Value} (hv : rel E A v) (hx : rel E Y x) {C : Option Prop} {R : AV} {h' : List AO} :
  (evApp h mm (ti e).size (ti e).bytes A Y = .v C R → holds C → ∃ r w', (Builtin.append_ #[t, tx] ty #[v, x]).run P w = .ok r w' ∧ Post B E h R r w') ∧
  (evApp h mm (ti e).size (ti e).bytes A Y = .e C R h' → holds C → ∃ r w', (Builtin.append_ #[t, tx] ty #[v, x]).run P w = .ok r w' ∧ Post B E h' R r w') := by
 have hD : ∀ {D C : Option Prop} {k d nil n c R h'}, (appSl h mm (ti e).size (ti e).bytes D k d nil n c = .v C R ∨ appSl h mm (ti e).size (ti e).bytes D k d nil n c = .e C R h') → holds C → holds D := fun {D C k d nil n c R h'} hev hC => by
  unfold appSl at hev
  split at hev
  ·split at hev
   ·rcases hev with hev | hev
    ·cases hev; exact (holds_both.1 hC).1
    ·cases hev
   ·rcases hev with hev | hev <;> cases hev
  ·split at hev
   ·rcases hev with hev | hev
    ·cases hev
    ·cases hev; exact (holds_both.1 hC).1
   ·split at hev
    ·rcases hev with hev | hev
     ·cases hev
     ·cases hev; exact (holds_both.1 hC).1
    ·rcases hev with hev | hev <;> cases hev
 have hD' : ∀ {D C : Option Prop} {k d nil i ep n R h'}, appMs h (ti e).size (ti e).bytes D k d nil i ep n = .e C R h' → holds C → holds D := fun {D C k d nil i ep n R h'} hev hC => by
  unfold appMs at hev
  split at hev
  ·split at hev
   ·split at hev
    ·split at hev
     ·cases hev; exact (holds_both.1 hC).1
     ·cases hev
    ·cases hev
   ·cases hev
  ·cases hev
 have notv : ∀ {D C : Option Prop} {k d nil i ep n R}, appMs h (ti e).size (ti e).bytes D k d nil i ep n ≠ .v C R := fun {D C k d nil i ep n R} hev => by
  unfold appMs at hev
  split at hev
  ·split at hev
   ·split at hev
    ·split at hev <;> cases hev
    ·cases hev
   ·cases hev
  ·cases hev
 -- a slice by value
 have sl : ∀ {nil : Bool} {n : Nat} {c : AV} {D : Option Prop} {k : Nat} {d : AV} {full : Bool} {sz' : Nat}, srcS h (ti e).size Y = some (D, k, d) → rel E (.sl nil n sz' c full) v → (full = true ∧ sz' = (ti e).size ∨ nil = true) →
   (appSl h mm (ti e).size (ti e).bytes D k d nil n c = .v C R → holds C → ∃ r w', (Builtin.append_ #[t, tx] ty #[v, x]).run P w = .ok r w' ∧ Post B E h R r w') ∧
   (appSl h mm (ti e).size (ti e).bytes D k d nil n c = .e C R h' → holds C → ∃ r w', (Builtin.append_ #[t, tx] ty #[v, x]).run P w = .ok r w' ∧ Post B E h' R r w') := fun {nil n c D k d full sz'} hY hv hfull => by
  have main : holds D → (appSl h mm (ti e).size (ti e).bytes D k d nil n c = .v C R → holds C → ∃ r w', (Builtin.append_ #[t, tx] ty #[v, x]).run P w = .ok r w' ∧ Post B E h R r w') ∧
   (appSl h mm (ti e).size (ti e).bytes D k d nil n c = .e C R h' → holds C → ∃ r w', (Builtin.append_ #[t, tx] ty #[v, x]).run P w = .ok r w' ∧ Post B E h' R r w') := fun hDD => by
   obtain ⟨us, hd, hs⟩ := src_ok m hY hDD hx T.hx
   simp only [rel] at hv
   split at hv
   ·rename_i hn
    obtain ⟨rfl, rfl, hc⟩ := hv
    exact appSl_ok m T (vs := []) hs hd hc (by simp) (fun w' _ => run_firstCells_none w' _ _ _ _) (fun _ => ⟨rfl, rfl⟩) (fun h => by rw [hn] at h; cases h) (by simp only [rel, hn, if_true]; exact ⟨trivial, trivial, hc⟩)
   ·rename_i hn
    obtain ⟨ad, cap, vs, rfl, h3, h4, h5, h6, h7⟩ := hv
    rcases hfull with ⟨hf, rfl⟩ | hf
    ·obtain rfl := h4 hf
     refine appSl_ok m T (vs := vs) hs hd h7 h6 (fun w' hw => ?_) (fun h => absurd h hn) (fun _ => by simp) (by simp only [rel, hn]; exact ⟨ad, cap, vs, rfl, Nat.le_refl _, fun _ => rfl, h5, h6, h7⟩)
     refine run_firstCells_some w' _ _ ad cap cap vs h6 fun j u hu => ?_
     rcases h5 with rfl | ⟨b, o', rfl, h5⟩
     ·simp at hu
     ·rw [addr_add, hw]; exact m.at_cell h5 hu
    ·exact absurd hf hn
  exact ⟨fun hev hC => (main (hD (h' := h') (.inl hev) hC)).1 hev hC, fun hev hC => (main (hD (.inr hev) hC)).2 hev hC⟩
 have no1 : (ER.no = .v C R → holds C → ∃ r w', (Builtin.append_ #[t, tx] ty #[v, x]).run P w = .ok r w' ∧ Post B E h R r w') ∧ (ER.no = .e C R h' → holds C → ∃ r w', (Builtin.append_ #[t, tx] ty #[v, x]).run P w = .ok r w' ∧ Post B E h' R r w') :=
  ⟨fun hev => (by cases hev), fun hev => (by cases hev)⟩
 unfold evApp
 split
 ·rename_i D k d hY
  split
  ·rename_i nil i ep o' n sz'
   split
   ·rename_i ho0
    obtain rfl := Nat.eq_of_beq_eq_true ho0
    split
    ·rename_i hsz
     obtain rfl := Nat.eq_of_beq_eq_true hsz
     refine ⟨fun hev _ => absurd hev notv, fun hev hC => ?_⟩
     obtain ⟨us, hd, hs⟩ := src_ok m hY (hD' hev hC) hx T.hx
     exact appMs_ok m T hs hd hv hev hC
    ·exact no1
   ·exact no1
  ·rename_i nil n sz' c full
   split
   ·rename_i hsz
    split
    ·rename_i hf
     exact sl hY hv (.inl ⟨rfl, Nat.eq_of_beq_eq_true hsz⟩)
    ·split
     ·exact sl hY hv (.inr rfl)
     ·exact no1
   ·split
    ·exact sl hY hv (.inr rfl)
    ·exact no1
  ·exact no1
 ·exact no1

end
section
variable {P : Program} {ti : Nat → TInf} {B : Base} {E : Env} {h : List AO} {w : World} {g : Nat → AV} {a : Act} {o : Oper} {sp : Sp}

def Mof (E : Env) (h : List AO) (b : Nat) : Prop := (∃ i ob s, h[i]? = some ob ∧ ob.fz = false ∧ E.ι i = some (b, s) ∧ 0 < s) ∨ E.wl b ≠ 0

theorem Mem.enter (m : Mem B E h w) : Mem ⟨w, E, Mof E h, noX⟩ E h w := by
 refine ⟨Env.le.refl E, Nat.le_refl _, rfl, rfl, rfl, fun _ _ _ => rfl, m.sat, fun i ob hi => ?_, m.inj, fun b hb => .inl hb, m.fresh, fun i hi => (m.fresh i hi).1, ⟨fun b hb => ⟨.inl hb, (m.xt.ow b hb).2⟩, fun b hb => ⟨.inr (.inr hb), (m.xt.wl b hb).2⟩⟩⟩
 obtain ⟨h1, b, s, h2, h3⟩ := m.obj i ob hi
 refine ⟨h1, b, s, h2, ?_⟩
 rcases h3 with h3 | h3 | ⟨hf, hs, cur, T, fr, vs, post, g1, g2, g3, g4, g5, g6, g7⟩
 ·exact .inl h3
 ·exact .inr (.inl h3)
 ·exact .inr (.inr ⟨hf, hs, cur, T, fr, vs, post, g1, g2, g3, g4, g5, g6, .inr (.inl ⟨i, ob, s, hi, hf, h2, hs⟩)⟩)

theorem Mem.mof (m : Mem B E h w) {b : Nat} (hb : Mof E h b) : B.w0.heap.size ≤ b ∨ B.M b := by
 rcases hb with ⟨i, ob, s, h1, h2, h3, h4⟩ | hb
 case inr => exact (m.xt.wl b hb).1
 obtain ⟨_, b', s', k1, k2⟩ := m.obj i ob h1
 rw [h3] at k1; cases k1
 rcases k2 with ⟨rfl, _⟩ | ⟨hf, _⟩ | ⟨_, _, cur, T, fr, vs, post, g1, g2, g3, g4, g5, g6, g7⟩
 ·omega
 ·rw [h2] at hf; cases hf
 ·exact g7

theorem Mem.back (m : Mem B E h w) {E' : Env} {h' : List AO} {w' : World} (m' : Mem ⟨w, E, Mof E h, noX⟩ E' h' w') (hl : h.length ≤ h'.length) : Mem B E' h' w' := by
 have hM : ∀ {b : Nat}, w.heap.size ≤ b ∨ Mof E h b → B.w0.heap.size ≤ b ∨ B.M b := fun {b} hb => by
  rcases hb with hb | hb
  ·left; have := m.size; omega
  ·exact m.mof hb
 refine ⟨m.le.trans m'.le, Nat.le_trans m.size m'.size, m'.os.trans m.os, m'.tape.trans m.tape, m'.output.trans m.output, fun b hb hn => ?_, m'.sat, fun i ob hi => ?_, m'.inj, fun b hb => ?_, m'.fresh, fun i hi => m.base i (by omega), ⟨fun b hb => ?_, fun b hb => ?_⟩⟩
 ·have hlt : b < w.heap.size := by have := m.size; omega
  rw [m'.keeps b hlt (fun hb' => by
   rcases m.mof hb' with h' | h'
   ·omega
   ·exact hn h')]
  exact m.keeps b hb hn
 ·obtain ⟨h1, b, s, h2, h3⟩ := m'.obj i ob hi
  refine ⟨h1, b, s, h2, ?_⟩
  rcases h3 with h3 | h3 | ⟨hf, hs, cur, T, fr, vs, post, g1, g2, g3, g4, g5, g6, g7⟩
  ·exact .inl h3
  ·exact .inr (.inl h3)
  ·exact .inr (.inr ⟨hf, hs, cur, T, fr, vs, post, g1, g2, g3, g4, g5, g6, hM g7⟩)
 ·rcases m'.newP b hb with h1 | h1 | h1
  ·exact m.newP b h1
  ·exact .inr (hM (.inl h1))
  ·exact .inr (hM (.inr h1))
 ·obtain ⟨h1, h2⟩ := m'.xt.ow b hb
  refine ⟨?_, h2⟩
  rcases h1 with h1 | h1
  ·exact (m.xt.ow b h1).1
  ·exact .inr (hM h1)
 ·obtain ⟨h1, h2⟩ := m'.xt.wl b hb
  exact ⟨hM h1, h2⟩

mutual
theorem frzV_ok : ∀ (A : AV) (h : List AO) (E : Env), Mem B E h w → ∀ {C : Option Prop} {A' : AV} {h' : List AO}, frzV h A = some (C, A', h') → holds C → ∀ v, rel E A v → ∃ E', E.le E' ∧ Mem B E' h' w ∧ rel E' A' v
 | .agg l, h, E, m, C, A', h', hf, hC, v, r => by
   simp only [frzV] at hf
   split at hf
   ·rename_i C' l' h'' hl
    cases hf
    simp only [rel] at r
    obtain ⟨vs, rfl, r1, r2⟩ := r
    obtain ⟨E', k1, k2, k3⟩ := frzL_ok l h E m hl hC _ r1
    exact ⟨E', k1, k2, by simp only [rel]; exact ⟨vs, rfl, k3, r2⟩⟩
   ·cases hf
 | .ms nil i e o n sz, h, E, m, C, A', h', hf, hC, v, r => by
   simp only [frzV] at hf
   split at hf
   ·rename_i ob hob
    split at hf
    ·rename_i hep
     split at hf
     ·rename_i C' d hd
      cases hf
      have hob' : h[i]? = some ob := by rw [← hget_eq]; exact hob
      obtain ⟨E', k1, k2, k3, k4⟩ := m.freeze hob'
      obtain rfl := Nat.eq_of_beq_eq_true hep
      refine ⟨E', k1, by rw [hset_eq]; exact k2, ?_⟩
      exact rel_ms_sl k2 (ob := { ob with fz := true }) (by rw [List.getElem?_set_self (List.getElem?_eq_some_iff.1 hob').1]) rfl (rel.mono k1 _ _ r) (by rw [← mulz_eq]; exact hd) hC
     ·cases hf
    ·cases hf
   ·cases hf
 | .ob _ _, h, E, m, C, A', h', hf, hC, v, r | .wsl _, h, E, m, C, A', h', hf, hC, v, r | .wp, h, E, m, C, A', h', hf, hC, v, r | .w8, h, E, m, C, A', h', hf, hC, v, r
 | .any, h, E, m, C, A', h', hf, hC, v, r | .undef, h, E, m, C, A', h', hf, hC, v, r | .int _, h, E, m, C, A', h', hf, hC, v, r | .u8 _, h, E, m, C, A', h', hf, hC, v, r | .u32 _, h, E, m, C, A', h', hf, hC, v, r
 | .u64 _, h, E, m, C, A', h', hf, hC, v, r | .bool _, h, E, m, C, A', h', hf, hC, v, r | .str _, h, E, m, C, A', h', hf, hC, v, r | .nilp, h, E, m, C, A', h', hf, hC, v, r | .ptr _ _ _, h, E, m, C, A', h', hf, hC, v, r | .pel _ _ _ _ _, h, E, m, C, A', h', hf, hC, v, r | .rw _ _ _, h, E, m, C, A', h', hf, hC, v, r
 | .rop _, h, E, m, C, A', h', hf, hC, v, r | .sl _ _ _ _ _, h, E, m, C, A', h', hf, hC, v, r | .ab _, h, E, m, C, A', h', hf, hC, v, r | .ai _, h, E, m, C, A', h', hf, hC, v, r | .au _, h, E, m, C, A', h', hf, hC, v, r
 | .tup _, h, E, m, C, A', h', hf, hC, v, r | .fn _ _, h, E, m, C, A', h', hf, hC, v, r | .bf _ _, h, E, m, C, A', h', hf, hC, v, r | .yl _, h, E, m, C, A', h', hf, hC, v, r | .nilf, h, E, m, C, A', h', hf, hC, v, r | .iface _ _, h, E, m, C, A', h', hf, hC, v, r | .nili, h, E, m, C, A', h', hf, hC, v, r => by
   simp only [frzV] at hf; cases hf; exact ⟨E, Env.le.refl E, m, r⟩
theorem frzL_ok : ∀ (l : List AV) (h : List AO) (E : Env), Mem B E h w → ∀ {C : Option Prop} {l' : List AV} {h' : List AO}, frzL h l = some (C, l', h') → holds C → ∀ vs, relL E l vs → ∃ E', E.le E' ∧ Mem B E' h' w ∧ relL E' l' vs
 | [], h, E, m, C, l', h', hf, hC, vs, r => by simp only [frzL] at hf; cases hf; exact ⟨E, Env.le.refl E, m, r⟩
 | a :: l, h, E, m, C, l', h', hf, hC, vs, r => by
   simp only [frzL] at hf
   split at hf
   ·rename_i C1 a' h1 ha
    split at hf
    ·rename_i D l1 h2 hl
     cases hf
     obtain ⟨c1, c2⟩ := holds_both.1 hC
     simp only [relL] at r
     obtain ⟨u, us, rfl, r1, r2⟩ := r
     obtain ⟨E1, k1, k2, k3⟩ := frzV_ok a h E m ha c1 u r1
     obtain ⟨E2, q1, q2, q3⟩ := frzL_ok l h1 E1 k2 hl c2 us (relL.mono k1 _ _ r2)
     exact ⟨E2, k1.trans q1, q2, by simp only [relL]; exact ⟨u, us, rfl, rel.mono q1 _ _ k3, q3⟩⟩
    ·cases hf
   ·cases hf
end

theorem calls_of (m : Mem B E h w) {f : FuncId} {as : List AV} {vs : List Value} (hr : relL E as vs) {K : AV → List AO → Prop} (hA : ACalls P f as h K) :
  Calls P f vs.toArray w (fun e w' => ∃ v r h', e = .returned v ∧ K r h' ∧ Post B E h' r v w') := by
 refine Calls.mono (hA E w vs hr m.enter) fun e w' hh => ?_
 obtain ⟨v, r, h', E', rfl, k1, k2, k3, k4⟩ := hh
 exact ⟨v, r, h', rfl, k1, E', k3.le, m.back k3 k2, k4⟩

theorem Mem.reset (m : Mem B E h w) {i : Nat} {ob : AO} {c : AV} {b s : Nat} (hi : h[i]? = some ob) (hf : ob.fz = false) (hι : E.ι i = some (b, s)) (hs : 0 < s) (hrow : rowO E B.w0.heap.size B.M w c b s) : Mem B E (h.set i ⟨ob.ep, c, false⟩) w := by
 have hlt := (List.getElem?_eq_some_iff.1 hi).1
 have get : ∀ {k : Nat} {ok : AO}, (h.set i ⟨ob.ep, c, false⟩)[k]? = some ok → (k = i ∧ ok = ⟨ob.ep, c, false⟩) ∨ (k ≠ i ∧ h[k]? = some ok) := fun {k ok} hk => by
  by_cases e : k = i
  ·subst e; rw [List.getElem?_set_self hlt] at hk; cases hk; exact .inl ⟨rfl, rfl⟩
  ·rw [List.getElem?_set_ne (Ne.symm e)] at hk; exact .inr ⟨e, hk⟩
 refine ⟨m.le, m.size, m.os, m.tape, m.output, m.keeps, m.sat, fun k ok hk => ?_, fun j k oj ok b1 s1 t1 hj hk fj fk => ?_, m.newP, fun j hj => m.fresh j (by simpa using hj), fun j hj => m.base j (by simpa using hj),
  m.xt.to rfl rfl (fun _ _ h => h) (fun _ _ h => h) (fun _ _ => rfl) fun k hk j oj b' s' hj fj hb' hs' => ?_⟩
 ·rcases get hk with ⟨rfl, rfl⟩ | ⟨_, hk⟩
  ·exact ⟨(m.obj _ ob hi).1, b, s, hι, .inr (.inr ⟨rfl, hs, hrow⟩)⟩
  ·exact m.obj _ ok hk
 ·have fix : ∀ {k : Nat} {ok : AO}, (h.set i ⟨ob.ep, c, false⟩)[k]? = some ok → ok.fz = false → ∃ o', h[k]? = some o' ∧ o'.fz = false := fun {k ok} hk fk => by
   rcases get hk with ⟨rfl, rfl⟩ | ⟨_, hk⟩
   ·exact ⟨ob, hi, hf⟩
   ·exact ⟨ok, hk, fk⟩
  obtain ⟨oj', hj', fj'⟩ := fix hj fj
  obtain ⟨ok', hk', fk'⟩ := fix hk fk
  exact m.inj j k oj' ok' b1 s1 t1 hj' hk' fj' fk'
 ·rcases get hj with ⟨rfl, rfl⟩ | ⟨_, hj⟩
  ·exact (m.xt.wl k hk).2.2.2 _ ob b' s' hi hf hb' hs'
  ·exact (m.xt.wl k hk).2.2.2 j oj b' s' hj fj hb' hs'
theorem frzI_ok (m : Mem B E h w) {i : Nat} {C : Option Prop} {h' : List AO} (hf : frzI h i = some (C, h')) (hC : holds C) : ∃ E', E.le E' ∧ Mem B E' h' w := by
 have triv : some (none, h) = some (C, h') → ∃ E', E.le E' ∧ Mem B E' h' w := fun e => by cases e; exact ⟨E, Env.le.refl E, m⟩
 unfold frzI at hf
 split at hf
 ·rename_i ob hob
  split at hf
  ·rename_i l hc
   split at hf
   ·rename_i hms
    split at hf
    ·rename_i hfz
     split at hf
     ·rename_i C' l' h1 hl
      split at hf
      ·rename_i ob' hob'
       split at hf
       ·rename_i hfz'
        split at hf
        ·rename_i hep
         cases hf
         have hep := Nat.eq_of_beq_eq_true hep
         rw [hget_eq] at hob hob'
         obtain ⟨q1, b, s, q2, q3⟩ := m.obj i ob hob
         rcases q3 with ⟨_, g2⟩ | ⟨g0, _⟩ | ⟨g0, g1, cur, T, fr, vs, post, g2, g3, g4, g5, g6, g7, g8⟩
         ·rw [hc] at g2
          simp only [relC] at g2
          have := relL_length g2.1
          have : l = [] := List.eq_nil_of_length_eq_zero (by simpa using this.symm)
          subst this
          simp [hasMsL] at hms
         ·rw [hfz] at g0; cases g0
         ·rw [hc] at g6
          simp only [relC] at g6
          obtain ⟨E', le, m', r'⟩ := frzL_ok l h E m hl hC vs g6.1
          obtain ⟨p1, b', s', p2, p3⟩ := m'.obj i ob' hob'
          have hι : E'.ι i = E.ι i := by
           rcases le.ι i (by rw [q2]; simp) with ⟨_, e⟩ | ⟨e, _⟩
           ·exact e
           ·exfalso; rw [p1, q1, hep] at e; exact Nat.lt_irrefl _ e
          rw [hι, q2] at p2
          cases p2
          rcases p3 with ⟨p3, _⟩ | ⟨p3, _⟩ | ⟨_, _, cur', T', fr', vs', post', k2, k3, k4, k5, k6, k7, k8⟩
          ·omega
          ·rw [hfz'] at p3; cases p3
          ·refine ⟨E', le, ?_⟩
           rw [hset_eq, ← hep]
           exact m'.reset hob' hfz' (by rw [hι, q2]) g1 ⟨cur, T, fr, vs, post, g2, g3, g4, g5, ⟨r', g6.2⟩, k7, k8⟩
        ·cases hf
       ·cases hf
      ·cases hf
     ·cases hf
    ·exact triv hf
   ·exact triv hf
  ·exact triv hf
 ·exact triv hf
theorem frzJ_ok (m : Mem B E h w) {i : Nat} {C : Option Prop} {h' : List AO} (hf : frzJ h i = some (C, h')) (hC : holds C) : ∃ E', E.le E' ∧ Mem B E' h' w := by
 have triv : some (none, h) = some (C, h') → ∃ E', E.le E' ∧ Mem B E' h' w := fun e => by cases e; exact ⟨E, Env.le.refl E, m⟩
 unfold frzJ at hf
 split at hf
 ·split at hf
  ·split at hf
   ·split at hf
    ·exact frzI_ok m hf hC
    ·exact triv hf
   ·exact triv hf
  ·exact triv hf
 ·exact triv hf
theorem frzA_ok : ∀ (n : Nat) {E : Env} {h : List AO} {C : Option Prop} {h' : List AO}, Mem B E h w → frzA n h = some (C, h') → holds C → ∃ E', E.le E' ∧ Mem B E' h' w
 | 0, E, h, C, h', m, hf, _ => by cases hf; exact ⟨E, Env.le.refl E, m⟩
 | i + 1, E, h, C, h', m, hf, hC => by
   simp only [frzA] at hf
   split at hf
   ·rename_i C1 h1 h2
    split at hf
    ·rename_i C2 h3 h4
     cases hf
     obtain ⟨c1, c2⟩ := holds_both.1 hC
     obtain ⟨E1, le1, m1⟩ := frzJ_ok m h2 c1
     obtain ⟨E2, le2, m2⟩ := frzA_ok i m1 h4 c2
     exact ⟨E2, le1.trans le2, m2⟩
    ·cases hf
   ·cases hf
theorem frzC_ok (l : List AV) (h : List AO) (E : Env) (m : Mem B E h w) {C : Option Prop} {l' : List AV} {h' : List AO} (hf : frzC h l = some (C, l', h')) (hC : holds C) (vs) (r : relL E l vs) : ∃ E', E.le E' ∧ Mem B E' h' w ∧ relL E' l' vs := by
 unfold frzC at hf
 split at hf
 ·rename_i D as' h1 h2
  split at hf
  ·cases hf; exact frzL_ok l h E m h2 hC vs r
  ·split at hf
   ·rename_i F h3 h4
    cases hf
    obtain ⟨c1, c2⟩ := holds_both.1 hC
    obtain ⟨E1, q1, q2, q3⟩ := frzL_ok l h E m h2 c1 vs r
    obtain ⟨E2, le2, m2⟩ := frzA_ok _ q2 h4 c2
    exact ⟨E2, q1.trans le2, m2, relL.mono le2 _ _ q3⟩
   ·cases hf
 ·cases hf
theorem relL_xvs (hg : ∀ k, rel E (g k) (a.tmps.getD k undef)) : ∀ xs : List Operand, relL E (xvs g (xs.map xof)) (xs.map a.eval)
 | [] => by simp only [List.map_nil, xvs, relL]
 | x :: xs => by simp only [List.map_cons, xvs, relL]; exact ⟨_, _, rfl, rel_x hg x, relL_xvs hg xs⟩

theorem call_ok (m : Mem B E h w) (hsp : SpOK P sp) (hg : ∀ k, rel E (g k) (a.tmps.getD k undef)) {c : Call} {f : Operand} (ho : o.op = .call c) (hc : c.callee = .value f) {C : Option Prop} {R : AV} :
  (evCall sp h (xv g (xof f)) (xvs g (c.args.toList.map xof)) = .v C R → holds C → Gives P o a w (Post B E h R)) ∧
  (∀ h', evCall sp h (xv g (xof f)) (xvs g (c.args.toList.map xof)) = .e C R h' → holds C → Gives P o a w (Post B E h' R)) := by
 have hf := rel_x hg f
 have has := relL_xvs hg (a := a) c.args.toList
 -- the run up to the call
 have run : ∀ {F : Nat} {caps : List AV} {e : SpE}, xv g (xof f) = .fn F caps → sfind sp F = some e → ∃ us vs : List Value, relL E (xvs g (c.args.toList.map xof)) us ∧ relL E caps vs ∧ (execOp a.eval o).run P w = .ok (.enter F (us ++ vs).toArray) w := fun {F caps e} hx he => by
  rw [hx] at hf
  simp only [rel] at hf
  obtain ⟨cv, hf, hcap⟩ := hf
  refine ⟨c.args.toList.map a.eval, cv.toList, has, hcap, ?_⟩
  have h1 := (hsp F e he).2 (c.args.map a.eval ++ cv) w
  have h2 : (c.args.toList.map a.eval ++ cv.toList).toArray = c.args.map a.eval ++ cv := by
   apply Array.ext'; simp
  rw [h2]
  unfold execOp
  simp only [ho, resolve, hc, hf, Deferred.ofValue, Sem.run_bind, Sem.run_pure, Result.andThen_ok, invoke, Array.empty_append]
  exact h1
 have runb : ∀ {F : Nat} {fs : List AV} {e : SpE}, xv g (xof f) = .bf F fs → sfind sp F = some e → ∃ us vs : List Value, relL E (xvs g (c.args.toList.map xof)) us ∧ relL E fs vs ∧ (execOp a.eval o).run P w = .ok (.enter F (vs ++ us).toArray) w := fun {F fs e} hx he => by
  rw [hx] at hf
  simp only [rel] at hf
  obtain ⟨cv, hf, hcap⟩ := hf
  refine ⟨c.args.toList.map a.eval, cv.toList, has, hcap, ?_⟩
  have h1 := (hsp F e he).2 (cv ++ c.args.map a.eval) w
  have h2 : (cv.toList ++ c.args.toList.map a.eval).toArray = cv ++ c.args.map a.eval := by
   apply Array.ext'; simp
  rw [h2]
  unfold execOp
  simp only [ho, resolve, hc, hf, Deferred.ofValue, Sem.run_bind, Sem.run_pure, Result.andThen_ok, invoke, Array.append_empty]
  exact h1
 have give : ∀ {F : Nat} {as : List AV} {vs : List Value} {E' : Env} {h0 : List AO} {h1 : List AO}, E.le E' → Mem B E' h0 w → relL E' as vs → (execOp a.eval o).run P w = .ok (.enter F vs.toArray) w → ACalls P F as h0 (fun r h' => r = R ∧ h' = h1) → Gives P o a w (Post B E h1 R) := fun le m' hr hrun hA => by
  refine .inr (.inr ⟨_, _, hrun, Calls.mono (calls_of m' hr hA) fun e w' hh => ?_⟩)
  obtain ⟨v, r, h', rfl, ⟨rfl, rfl⟩, E2, q1, q2, q3⟩ := hh
  exact ⟨v, rfl, E2, le.trans q1, q2, q3⟩
 have both' : ∀ {F : Nat} {e : SpE}, sfind sp F = some e →
   (∀ {as h0 C A}, e.f as h0 = .v C A → holds C → ACalls P F as h0 (fun r h' => r = A ∧ h' = h0)) ∧ (∀ {as h0 C A h1}, e.f as h0 = .e C A h1 → holds C → ACalls P F as h0 (fun r h' => r = A ∧ h' = h1)) := fun {F e} he => by
  have := (hsp F e he).1
  exact ⟨fun {as h0 C A} h1 => by have := this as h0; rw [h1] at this; exact this, fun {as h0 C A h1} h2 => by have := this as h0; rw [h2] at this; exact this⟩
 constructor
 ·intro hev hC
  unfold evCall at hev
  split at hev
  ·rename_i F caps hx
   split at hev
   ·rename_i e he
    obtain ⟨us, vs, r1, r3, r2⟩ := run hx he
    have r13 : relL E (lapp (xvs g (c.args.toList.map xof)) caps) (us ++ vs) := by rw [lapp_eq]; exact relL_app r1 r3
    split at hev
    ·exact give (Env.le.refl E) m r13 r2 ((both' he).1 hev hC)
    ·split at hev
     ·exact give (Env.le.refl E) m r13 r2 ((both' he).1 hev hC)
     ·split at hev
      ·split at hev <;> cases hev
      ·cases hev
   ·cases hev
  ·rename_i F caps hx
   split at hev
   ·rename_i e he
    obtain ⟨us, vs, r1, r3, r2⟩ := runb hx he
    split at hev
    ·exact give (Env.le.refl E) m (by rw [lapp_eq]; exact relL_app r3 r1) r2 ((both' he).1 hev hC)
    ·split at hev
     ·exact give (Env.le.refl E) m (by rw [lapp_eq]; exact relL_app r3 r1) r2 ((both' he).1 hev hC)
     ·cases hev
   ·cases hev
  ·cases hev
 ·intro h' hev hC
  unfold evCall at hev
  split at hev
  ·rename_i F caps hx
   split at hev
   ·rename_i e he
    obtain ⟨us, vs, r1, r3, r2⟩ := run hx he
    have r13 : relL E (lapp (xvs g (c.args.toList.map xof)) caps) (us ++ vs) := by rw [lapp_eq]; exact relL_app r1 r3
    split at hev
    ·exact give (Env.le.refl E) m r13 r2 ((both' he).2 hev hC)
    ·split at hev
     ·exact give (Env.le.refl E) m r13 r2 ((both' he).2 hev hC)
     ·split at hev
      ·rename_i D as' h0 hfr
       split at hev
       ·rename_i C' A' hf'
        cases hev
        obtain ⟨c1, c2⟩ := holds_both.1 hC
        obtain ⟨E1, q1, q2, q3⟩ := frzC_ok _ h E m hfr c1 us r1
        exact give q1 q2 (by rw [lapp_eq]; exact relL_app q3 (relL.mono q1 _ _ r3)) r2 ((both' he).1 hf' c2)
       ·rename_i C' A' h'' hf'
        cases hev
        obtain ⟨c1, c2⟩ := holds_both.1 hC
        obtain ⟨E1, q1, q2, q3⟩ := frzC_ok _ h E m hfr c1 us r1
        exact give q1 q2 (by rw [lapp_eq]; exact relL_app q3 (relL.mono q1 _ _ r3)) r2 ((both' he).2 hf' c2)
       ·cases hev
      ·cases hev
   ·cases hev
  ·rename_i F caps hx
   split at hev
   ·rename_i e he
    obtain ⟨us, vs, r1, r3, r2⟩ := runb hx he
    split at hev
    ·exact give (Env.le.refl E) m (by rw [lapp_eq]; exact relL_app r3 r1) r2 ((both' he).2 hev hC)
    ·split at hev
     ·exact give (Env.le.refl E) m (by rw [lapp_eq]; exact relL_app r3 r1) r2 ((both' he).2 hev hC)
     ·cases hev
   ·cases hev
  ·cases hev

end

mutual
def ren (ρ : Nat → Nat) : AV → AV
 | .ptr i e o => .ptr (ρ i) e o
 | .pel i e k j sz => .pel (ρ i) e k j sz
 | .rop c => .rop (ren ρ c)
 | .sl nil n sz c full => .sl nil n sz (ren ρ c) full
 | .ms nil i e o n sz => .ms nil (ρ i) e o n sz
 | .agg l => .agg (renL ρ l)
 | .tup l => .tup (renL ρ l)
 | .fn f l => .fn f (renL ρ l)
 | .bf f l => .bf f (renL ρ l)
 | .iface t v => .iface t (ren ρ v)
 | .any => .any | .undef => .undef | .int n => .int n | .u8 x => .u8 x | .u32 x => .u32 x | .u64 x => .u64 x | .bool b => .bool b | .str l => .str l | .nilp => .nilp
 | .ob nl l => .ob nl l | .wsl n => .wsl n | .wp => .wp | .w8 => .w8
 | .ab l => .ab l | .rw n sz f => .rw n sz f | .ai l => .ai l | .au l => .au l | .yl l => .yl l | .nilf => .nilf | .nili => .nili
def renL (ρ : Nat → Nat) : List AV → List AV
 | [] => []
 | a :: l => ren ρ a :: renL ρ l
end
def Env.pull (E : Env) (ρ : Nat → Nat) : Env := { p := E.p, ι := fun j => E.ι (ρ j), ep := fun j => E.ep (ρ j), ow := E.ow, wl := E.wl }

mutual
theorem rel_ren {E : Env} {ρ : Nat → Nat} : ∀ (A : AV) (v : Value), rel E (ren ρ A) v ↔ rel (E.pull ρ) A v
 | .ptr i e o, v => by simp only [ren, rel, Env.pull]
 | .pel i e k j sz, v => by simp only [ren, rel, Env.pull]
 | .rw _ _ _, v => by simp only [ren, rel]
 | .rop c, v => by
   simp only [ren, rel]
   exact exists_congr fun b => exists_congr fun o => exists_congr fun vs => and_congr_right fun _ => and_congr_right fun _ => relC_ren c vs
 | .sl nil n sz c full, v => by
   simp only [ren, rel]
   split
   ·exact and_congr_right fun _ => and_congr_right fun _ => relC_ren c []
   ·exact exists_congr fun a => exists_congr fun cap => exists_congr fun vs => and_congr_right fun _ => and_congr_right fun _ => and_congr_right fun _ => and_congr_right fun _ => and_congr_right fun _ => relC_ren c vs
 | .ms nil i e o n sz, v => by simp only [ren, rel, Env.pull]
 | .agg l, v => by
   simp only [ren, rel]
   exact exists_congr fun vs => and_congr_right fun _ => and_congr (relL_ren l _) Iff.rfl
 | .tup l, v => by
   simp only [ren, rel]
   exact exists_congr fun vs => and_congr_right fun _ => relL_ren l _
 | .fn f l, v => by
   simp only [ren, rel]
   exact exists_congr fun vs => and_congr_right fun _ => relL_ren l _
 | .bf f l, v => by
   simp only [ren, rel]
   exact exists_congr fun vs => and_congr_right fun _ => relL_ren l _
 | .iface t a, v => by
   simp only [ren, rel]
   exact exists_congr fun u => and_congr_right fun _ => rel_ren a u
 | .any, v => by simp only [ren, rel]
 | .undef, v => by simp only [ren, rel]
 | .int n, v => by simp only [ren, rel]
 | .u8 n, v => by simp only [ren, rel]
 | .u32 n, v => by simp only [ren, rel]
 | .u64 n, v => by simp only [ren, rel]
 | .bool n, v => by simp only [ren, rel]
 | .str n, v => by simp only [ren, rel]
 | .nilp, v => by simp only [ren, rel]
 | .ab n, v => by simp only [ren, rel]
 | .ai n, v => by simp only [ren, rel]
 | .au n, v => by simp only [ren, rel]
 | .yl _, v => by simp only [ren, rel]
 | .nilf, v => by simp only [ren, rel]
 | .nili, v => by simp only [ren, rel]
 | .ob _ _, v => by simp only [ren, rel]; exact Iff.rfl
 | .wsl _, v => by simp only [ren, rel]; exact Iff.rfl
 | .wp, v => by simp only [ren, rel]; exact Iff.rfl
 | .w8, v => by simp only [ren, rel]
theorem relL_ren {E : Env} {ρ : Nat → Nat} : ∀ (l : List AV) (vs : List Value), relL E (renL ρ l) vs ↔ relL (E.pull ρ) l vs
 | [], vs => by simp only [renL, relL]
 | a :: l, vs => by
   simp only [renL, relL]
   exact exists_congr fun u => exists_congr fun us => and_congr_right fun _ => and_congr (rel_ren a u) (relL_ren l us)
theorem relC_ren {E : Env} {ρ : Nat → Nat} : ∀ (A : AV) (vs : List Value), relC E (ren ρ A) vs ↔ relC (E.pull ρ) A vs
 | .agg l, vs => by simp only [ren, relC]; exact and_congr (relL_ren l vs) Iff.rfl
 | .ab _, vs => by simp only [ren, relC]
 | .ai _, vs => by simp only [ren, relC]
 | .au _, vs => by simp only [ren, relC]
 | .rw _ _ _, vs => by simp only [ren, relC]; exact and_congr ⟨fun r => relFL.ofP (E := E) (E' := E.pull ρ) rfl rfl rfl r, fun r => relFL.ofP (E := E.pull ρ) (E' := E) rfl rfl rfl r⟩ Iff.rfl
 | .ob _ _, _ | .wsl _, _ | .wp, _ | .w8, _
 | .pel _ _ _ _ _, _ | .any, _ | .undef, _ | .int _, _ | .u8 _, _ | .u32 _, _ | .u64 _, _ | .bool _, _ | .str _, _ | .nilp, _ | .ptr _ _ _, _ | .rop _, _
 | .sl _ _ _ _ _, _ | .ms _ _ _ _ _ _, _ | .tup _, _ | .fn _ _, _ | .bf _ _, _ | .yl _, _ | .nilf, _ | .iface _ _, _ | .nili, _ => by simp only [ren, relC]
end

def rho (ns : List Nat) (k : Nat) (j : Nat) : Nat := match ns[j]? with | some i => i | none => k + (j - ns.length)
def idx : List Nat → Nat → Option Nat
 | [], _ => none
 | i :: ns, k => if k = i then some 0 else (idx ns k).map (· + 1)
theorem idx_some : ∀ {ns : List Nat} {k j : Nat}, idx ns k = some j → ns[j]? = some k
 | [], _, _, h => by cases h
 | i :: ns, k, j, h => by
   simp only [idx] at h
   split at h
   ·rename_i e; cases h; simp [e]
   ·cases hi : idx ns k with
    | none => rw [hi] at h; cases h
    | some j' => rw [hi] at h; cases h; simpa using idx_some hi
theorem idx_none : ∀ {ns : List Nat} {k : Nat}, idx ns k = none → k ∉ ns
 | [], _, _ => by simp
 | i :: ns, k, h => by
   simp only [idx] at h
   split at h
   ·cases h
   ·rename_i e
    cases hi : idx ns k with
    | none => simp [e, idx_none hi]
    | some j => rw [hi] at h; cases h
theorem idx_get : ∀ {ns : List Nat}, ns.Nodup → ∀ {k j : Nat}, ns[j]? = some k → idx ns k = some j
 | [], _, _, _, h => by simp at h
 | i :: ns, hn, k, j, h => by
   simp only [idx]
   cases j with
   | zero => simp at h; simp [h]
   | succ j =>
     have hm : ns[j]? = some k := by simpa using h
     have hne : k ≠ i := fun e => by
      subst e; exact (List.nodup_cons.1 hn).1 (List.mem_of_getElem? hm)
     rw [if_neg hne, idx_get (List.nodup_cons.1 hn).2 hm]; rfl

def renO (ρ : Nat → Nat) (o : AO) : AO := ⟨o.ep, ren ρ o.c, o.fz⟩
structure Patched (ns : List Nat) (h h1' h' : List AO) : Prop where
 len : h'.length = h.length + (h1'.length - ns.length)
 le : ns.length ≤ h1'.length
 old : ∀ i, i < h.length → i ∉ ns → h'[i]? = h[i]?
 own : ∀ j, j < h1'.length → h'[rho ns h.length j]? = (h1'[j]?).map (renO (rho ns h.length))

section
variable {P : Program} {ns : List Nat} {h h1 h1' h' : List AO}

theorem acalls_local (hnd : ns.Nodup) {f : FuncId} {args args1 : List AV} {R1 : AV} (hargs : args = renL (rho ns h.length) args1) (hlen : h1.length = ns.length)
  (hin : ∀ j o1, h1[j]? = some o1 → h[rho ns h.length j]? = some (renO (rho ns h.length) o1)) (hc : ACalls P f args1 h1 (fun r hh => r = R1 ∧ hh = h1')) (hp : Patched ns h h1' h') :
  ACalls P f args h (fun r hh => r = ren (rho ns h.length) R1 ∧ hh = h') := by
 intro E w vs hvs m
 subst hargs
 have hin' : ∀ j, j < ns.length → ∃ i o1, ns[j]? = some i ∧ rho ns h.length j = i ∧ i < h.length ∧ h1[j]? = some o1 := fun j hj => by
  have h1j : h1[j]? = some h1[j] := by simp
  have hnj : ns[j]? = some ns[j] := by simp
  have hr : rho ns h.length j = ns[j] := by unfold rho; rw [hnj]
  refine ⟨ns[j], h1[j], hnj, hr, ?_, h1j⟩
  have := hin j _ h1j
  rw [hr] at this
  exact (List.getElem?_eq_some_iff.1 this).1
 have hbig : ∀ j, ns.length ≤ j → rho ns h.length j = h.length + (j - ns.length) := fun j hj => by
  unfold rho; rw [List.getElem?_eq_none_iff.2 hj]
 have hlt : ∀ i ∈ ns, i < h.length := fun i hi => by
  obtain ⟨j, hj, e⟩ := List.getElem_of_mem hi
  obtain ⟨i', _, h2, h3, h4, _⟩ := hin' j hj
  rw [List.getElem?_eq_getElem hj, e] at h2
  cases h2; exact h4
 -- the callee's view
 have m1 : Mem ⟨w, E.pull (rho ns h.length), fun b => (∃ i ob s, h1[i]? = some ob ∧ ob.fz = false ∧ (E.pull (rho ns h.length)).ι i = some (b, s) ∧ 0 < s) ∨ (E.pull (rho ns h.length)).wl b ≠ 0, noX⟩ (E.pull (rho ns h.length)) h1 w := by
  refine ⟨Env.le.refl _, Nat.le_refl _, rfl, rfl, rfl, fun _ _ _ => rfl, m.sat, fun j o1 hj => ?_, fun j j' oj oj' b s t hj hj' fj fj' hb hb' hs ht => ?_, fun b hb => .inl hb, fun j hj => ?_, fun j hj => ?_,
   ⟨fun b hb => ⟨.inl hb, (m.xt.ow b hb).2⟩, fun b hb => ⟨.inr (.inr hb), (m.xt.wl b hb).2.1, (m.xt.wl b hb).2.2.1, fun j o1 b' s hj hf hb' hs => (m.xt.wl b hb).2.2.2 _ _ b' s (hin j o1 hj) hf hb' hs⟩⟩⟩
  ·obtain ⟨q1, b, s, q2, q3⟩ := m.obj _ _ (hin j o1 hj)
   refine ⟨q1, b, s, q2, ?_⟩
   rcases q3 with ⟨g1, g2⟩ | ⟨g0, vs, g1, g2⟩ | ⟨g0, g1, cur, T, fr, vs, post, g2, g3, g4, g5, g6, g7, g8⟩
   ·exact .inl ⟨g1, (relC_ren _ _).1 g2⟩
   ·exact .inr (.inl ⟨g0, vs, g1, (relC_ren _ _).1 g2⟩)
   ·exact .inr (.inr ⟨g0, g1, cur, T, fr, vs, post, g2, g3, g4, g5, (relC_ren _ _).1 g6, g7, .inr (.inl ⟨j, o1, s, hj, g0, q2, g1⟩)⟩)
  ·have e := m.inj _ _ _ _ b s t (hin j oj hj) (hin j' oj' hj') fj fj' hb hb' hs ht
   have l1 := (List.getElem?_eq_some_iff.1 hj).1
   have l2 := (List.getElem?_eq_some_iff.1 hj').1
   obtain ⟨i, _, n1, r1, _⟩ := hin' j (by omega)
   obtain ⟨i', _, n2, r2, _⟩ := hin' j' (by omega)
   have e' : i = i' := by rw [← r1, ← r2]; exact e
   subst e'
   have := idx_get hnd n1
   rw [idx_get hnd n2] at this
   exact (Option.some.inj this).symm
  ·have := m.fresh (rho ns h.length j) (by rw [hbig j (by omega)]; omega)
   exact this
  ·exact (m.fresh (rho ns h.length j) (by rw [hbig j (by omega)]; omega)).1
 refine Calls.mono (hc (E.pull (rho ns h.length)) w vs ((relL_ren _ _).1 hvs) m1) fun e w' hh => ?_
 obtain ⟨v, r, hh', E1', rfl, ⟨rfl, rfl⟩, hl', m', hr'⟩ := hh
 -- back
 have hM : ∀ {b : Nat}, (∃ i ob s, h1[i]? = some ob ∧ ob.fz = false ∧ (E.pull (rho ns h.length)).ι i = some (b, s) ∧ 0 < s) ∨ (E.pull (rho ns h.length)).wl b ≠ 0 → (∃ i ob s, h[i]? = some ob ∧ ob.fz = false ∧ E.ι i = some (b, s) ∧ 0 < s) ∨ E.wl b ≠ 0 := fun {b} hb => by
  rcases hb with ⟨j, ob, s, k1, k2, k3, k4⟩ | hb
  ·exact .inl ⟨_, _, s, hin j ob k1, k2, k3, k4⟩
  ·exact .inr hb
 let E' : Env := { p := E1'.p, ι := fun i => match idx ns i with | some j => E1'.ι j | none => if i < h.length then E.ι i else E1'.ι (ns.length + (i - h.length)), ep := fun i => match idx ns i with | some j => E1'.ep j | none => if i < h.length then E.ep i else E1'.ep (ns.length + (i - h.length)), ow := E1'.ow, wl := E1'.wl }
 have hback : ∀ j, idx ns (rho ns h.length j) = (if j < ns.length then some j else none) := fun j => by
  split
  ·rename_i hj
   obtain ⟨i, _, n1, r1, _⟩ := hin' j hj
   rw [r1]; exact idx_get hnd n1
  ·rename_i hj
   rw [hbig j (by omega)]
   cases hi : idx ns (h.length + (j - ns.length)) with
   | none => rfl
   | some k =>
     have := hlt _ (List.mem_of_getElem? (idx_some hi))
     omega
 have hpull : E'.pull (rho ns h.length) = E1' := by
  have e1 : ∀ j, E'.ι (rho ns h.length j) = E1'.ι j := fun j => by
   show (match idx ns (rho ns h.length j) with | some j => E1'.ι j | none => _) = _
   rw [hback j]
   by_cases hj : j < ns.length
   ·rw [if_pos hj]
   ·rw [if_neg hj]
    simp only
    rw [hbig j (by omega), if_neg (by omega)]
    congr 1; omega
  have e2 : ∀ j, E'.ep (rho ns h.length j) = E1'.ep j := fun j => by
   show (match idx ns (rho ns h.length j) with | some j => E1'.ep j | none => _) = _
   rw [hback j]
   by_cases hj : j < ns.length
   ·rw [if_pos hj]
   ·rw [if_neg hj]
    simp only
    rw [hbig j (by omega), if_neg (by omega)]
    congr 1; omega
  unfold Env.pull
  rw [funext e1, funext e2]
 have hι : ∀ i, idx ns i = none → i < h.length → E'.ι i = E.ι i ∧ E'.ep i = E.ep i := fun i hi hl => by
  constructor
  ·show (match idx ns i with | some j => E1'.ι j | none => _) = _
   rw [hi]; simp only; rw [if_pos hl]
  ·show (match idx ns i with | some j => E1'.ep j | none => _) = _
   rw [hi]; simp only; rw [if_pos hl]
 have pull_ι : ∀ j, E1'.ι j = E'.ι (rho ns h.length j) := fun j => by rw [← hpull]; rfl
 have pull_ep : ∀ j, E1'.ep j = E'.ep (rho ns h.length j) := fun j => by rw [← hpull]; rfl
 have le : E.le E' := by
  refine ⟨fun b cs hb => m'.le.p b cs hb, fun i hi => ?_, fun b hb => m'.le.ow b hb, fun b hb => m'.le.wl b hb⟩
  have hl : i < h.length := by
   rcases Nat.lt_or_ge i h.length with hh | hh
   ·exact hh
   ·exact absurd (m.fresh i hh).1 hi
  cases hx : idx ns i with
  | none => obtain ⟨a1, a2⟩ := hι i hx hl; exact .inl ⟨a2, a1⟩
  | some j =>
    have hj : j < ns.length := (List.getElem?_eq_some_iff.1 (idx_some hx)).1
    have hrj : rho ns h.length j = i := by unfold rho; rw [idx_some hx]
    have := m'.le.ι j (show E.ι (rho ns h.length j) ≠ none by rw [hrj]; exact hi)
    rw [pull_ι, pull_ep, hrj] at this
    simp only [Env.pull, hrj] at this
    exact this
 -- which objects are whose
 have kinds : ∀ i ob', h'[i]? = some ob' → (idx ns i = none ∧ i < h.length ∧ h[i]? = some ob') ∨ ∃ j o1, i = rho ns h.length j ∧ hh'[j]? = some o1 ∧ ob' = renO (rho ns h.length) o1 := fun i ob' hi => by
  have hil := (List.getElem?_eq_some_iff.1 hi).1
  rw [hp.len] at hil
  cases hx : idx ns i with
  | none =>
    by_cases hl : i < h.length
    ·rw [hp.old i hl (idx_none hx)] at hi
     exact .inl ⟨rfl, hl, hi⟩
    ·have hle := hp.le
     have hj : ns.length + (i - h.length) < hh'.length := by omega
     have e : i = rho ns h.length (ns.length + (i - h.length)) := by rw [hbig _ (by omega)]; omega
     have := hp.own _ hj
     rw [← e, hi] at this
     cases ho : hh'[ns.length + (i - h.length)]? with
     | none => rw [ho] at this; cases this
     | some o1 => rw [ho] at this; exact .inr ⟨_, o1, e, ho, by simpa using this⟩
  | some j =>
    have hj : j < ns.length := (List.getElem?_eq_some_iff.1 (idx_some hx)).1
    have e : i = rho ns h.length j := by unfold rho; rw [idx_some hx]
    have := hp.own j (by have := hp.le; omega)
    rw [← e, hi] at this
    cases ho : hh'[j]? with
    | none => rw [ho] at this; cases this
    | some o1 => rw [ho] at this; exact .inr ⟨_, o1, e, ho, by simpa using this⟩
 -- a block of an object that the callee did not see
 have apartB : ∀ i ob' b s, idx ns i = none → h[i]? = some ob' → ob'.fz = false → E.ι i = some (b, s) → 0 < s → ¬ ((∃ i ob s, h1[i]? = some ob ∧ ob.fz = false ∧ (E.pull (rho ns h.length)).ι i = some (b, s) ∧ 0 < s) ∨ (E.pull (rho ns h.length)).wl b ≠ 0) := fun i ob' b s hx hi hf hb hs hex => by
  rcases hex with ⟨j, ob, t, k1, k2, k3, k4⟩ | hex
  case inr => exact absurd rfl ((m.xt.wl b hex).2.2.2 i ob' b s hi hf hb hs)
  have := m.inj i _ ob' _ b s t hi (hin j ob k1) hf k2 hb k3 hs k4
  have hj : j < ns.length := by have := (List.getElem?_eq_some_iff.1 k1).1; omega
  rw [this, hback j, if_pos hj] at hx
  cases hx
 refine ⟨v, ren (rho ns h.length) r, h', E', rfl, ⟨rfl, rfl⟩, by rw [hp.len]; omega, ?_, (rel_ren _ _).2 (by rw [hpull]; exact hr')⟩
 refine ⟨le, m'.size, m'.os, m'.tape, m'.output, fun b hb hn => m'.keeps b hb fun hx => hn (hM hx), m'.sat, fun i ob' hi => ?_, fun i i' oi oi' b s t hi hi' fi fi' hb hb' hs ht => ?_, fun b hb => ?_, fun i hi => ?_, fun i hi => (m.fresh i (by rw [hp.len] at hi; omega)).1,
  ⟨fun b hb => ⟨(m'.xt.ow b hb).1.imp id (fun h => h.imp id hM), (m'.xt.ow b hb).2⟩, fun b hb => ⟨(m'.xt.wl b hb).1.imp id hM, (m'.xt.wl b hb).2.1, (m'.xt.wl b hb).2.2.1, fun i ob' b' s hi hf hb' hs => ?_⟩⟩⟩
 ·rcases kinds i ob' hi with ⟨hx, hl, ho⟩ | ⟨j, o1, rfl, ho, rfl⟩
  ·obtain ⟨a1, a2⟩ := hι i hx hl
   obtain ⟨q1, b, s, q2, q3⟩ := m.obj i ob' ho
   refine ⟨a2.trans q1, b, s, a1.trans q2, ?_⟩
   rcases q3 with ⟨g1, g2⟩ | ⟨g0, vs, g1, g2⟩ | ⟨g0, g1, cur, T, fr, vs, post, g2, g3, g4, g5, g6, g7, g8⟩
   ·exact .inl ⟨g1, relC.mono le _ _ g2⟩
   ·exact .inr (.inl ⟨g0, vs, g1.mono le, relC.mono le _ _ g2⟩)
   ·have hnm := apartB i ob' b s hx ho g0 q2 g1
    have hbl : b < w.heap.size := (Array.getElem?_eq_some_iff.1 g2).1
    refine .inr (.inr ⟨g0, g1, cur, T, fr, vs, post, by rw [m'.keeps b hbl hnm]; exact g2, g3, g4, g5, relC.mono le _ _ g6, ?_, g8⟩)
    cases hpb : E'.p b with
    | none => rfl
    | some cs =>
      rcases m'.newP b (by show E'.p b ≠ none; rw [hpb]; simp) with h1 | h1 | h1
      ·exact absurd g7 h1
      ·exact absurd hbl (by simpa using h1)
      ·exact absurd h1 hnm
  ·obtain ⟨q1, b, s, q2, q3⟩ := m'.obj j o1 ho
   refine ⟨(pull_ep j).symm.trans q1, b, s, (pull_ι j).symm.trans q2, ?_⟩
   have tr : ∀ {c : AV} {vs : List Value}, relC E1' c vs → relC E' (ren (rho ns h.length) c) vs := fun hr => (relC_ren _ _).2 (by rw [hpull]; exact hr)
   rcases q3 with ⟨g1, g2⟩ | ⟨g0, vs, g1, g2⟩ | ⟨g0, g1, cur, T, fr, vs, post, g2, g3, g4, g5, g6, g7, g8⟩
   ·exact .inl ⟨g1, tr g2⟩
   ·exact .inr (.inl ⟨g0, vs, g1, tr g2⟩)
   ·exact .inr (.inr ⟨g0, g1, cur, T, fr, vs, post, g2, g3, g4, g5, tr g6, g7, g8.imp id hM⟩)
 ·have mix : ∀ {i i' : Nat} {oi oi' : AO} {b s t : Nat}, h[i]? = some oi → idx ns i = none → i < h.length → oi.fz = false → E'.ι i = some (b, s) → 0 < s → (∃ j o1, i' = rho ns h.length j ∧ hh'[j]? = some o1 ∧ oi' = renO (rho ns h.length) o1) → oi'.fz = false → E'.ι i' = some (b, t) → 0 < t → False := fun {i i' oi oi' b s t} ho hx hl fi hb hs hj fj hb' ht => by
   obtain ⟨j, o1, rfl, hj, rfl⟩ := hj
   rw [(hι i hx hl).1] at hb
   rw [← pull_ι] at hb'
   have hnm := apartB i oi b s hx ho fi hb hs
   have hbl : b < w.heap.size := by
    obtain ⟨_, b', s', q2, q3⟩ := m.obj i oi ho
    rw [hb] at q2; cases q2
    rcases q3 with ⟨rfl, _⟩ | ⟨g0, _⟩ | ⟨_, _, cur, T, fr, vs, post, g2, _⟩
    ·omega
    ·rw [fi] at g0; cases g0
    ·exact (Array.getElem?_eq_some_iff.1 g2).1
   obtain ⟨_, b', s', q2, q3⟩ := m'.obj j o1 hj
   rw [hb'] at q2; cases q2
   rcases q3 with ⟨rfl, _⟩ | ⟨g0, _⟩ | ⟨_, _, cur, T, fr, vs, post, g2, g3, g4, g5, g6, g7, g8⟩
   ·omega
   ·have : o1.fz = false := fj
    rw [this] at g0; cases g0
   ·rcases g8 with g8 | g8
    ·exact absurd hbl (by simpa using g8)
    ·exact hnm g8
  rcases kinds i oi hi with ⟨hx, hl, ho⟩ | hj <;> rcases kinds i' oi' hi' with ⟨hx', hl', ho'⟩ | hj'
  ·rw [(hι i hx hl).1] at hb
   rw [(hι i' hx' hl').1] at hb'
   exact m.inj i i' oi oi' b s t ho ho' fi fi' hb hb' hs ht
  ·exact (mix ho hx hl fi hb hs hj' fi' hb' ht).elim
  ·exact (mix ho' hx' hl' fi' hb' ht hj fi hb hs).elim
  ·obtain ⟨j, o1, rfl, hj, rfl⟩ := hj
   obtain ⟨j', o1', rfl, hj', rfl⟩ := hj'
   rw [← pull_ι] at hb hb'
   rw [m'.inj j j' o1 o1' b s t hj hj' fi fi' hb hb' hs ht]
 ·rcases m'.newP b hb with h1 | h1 | h1
  ·exact .inl h1
  ·exact .inr (.inl h1)
  ·exact .inr (.inr (hM h1))
 ·rw [hp.len] at hi
  have hx : idx ns i = none := by
   cases hx : idx ns i with
   | none => rfl
   | some j => have := hlt _ (List.mem_of_getElem? (idx_some hx)); omega
  have hle := hp.le
  have e : i = rho ns h.length (ns.length + (i - h.length)) := by rw [hbig _ (by omega)]; omega
  have := m'.fresh (ns.length + (i - h.length)) (by omega)
  rw [pull_ι, pull_ep, ← e] at this
  exact this
 ·rcases kinds i ob' hi with ⟨hx, hl, ho⟩ | ⟨j, o1, rfl, ho, rfl⟩
  ·rw [(hι i hx hl).1] at hb'
   rintro rfl
   have hnm := apartB i ob' _ s hx ho hf hb' hs
   rcases (m'.xt.wl _ hb).1 with h1 | h1
   ·obtain ⟨_, b2, s2, q2, q3⟩ := m.obj i ob' ho
    rw [hb'] at q2; cases q2
    rcases q3 with ⟨rfl, _⟩ | ⟨g0, _⟩ | ⟨_, _, cur, T, fr, vs, post, g2, _⟩
    ·omega
    ·rw [hf] at g0; cases g0
    ·have := (Array.getElem?_eq_some_iff.1 g2).1
     exact absurd this (by simpa using h1)
   ·exact hnm h1
  ·rw [← pull_ι] at hb'
   exact (m'.xt.wl b hb).2.2.2 j o1 b' s ho hf hb' hs

end
section
variable {P : Program}
mutual
theorem ren_below {ρ : Nat → Nat} : ∀ A, below 0 A = true → ren ρ A = A
 | .rop c, h => by simp only [below] at h; simp only [ren, ren_below c h]
 | .sl _ _ _ c _, h => by simp only [below] at h; simp only [ren, ren_below c h]
 | .agg l, h => by simp only [below] at h; simp only [ren, renL_below l h]
 | .tup l, h => by simp only [below] at h; simp only [ren, renL_below l h]
 | .fn _ l, h => by simp only [below] at h; simp only [ren, renL_below l h]
 | .bf _ l, h => by simp only [below] at h; simp only [ren, renL_below l h]
 | .iface _ v, h => by simp only [below] at h; simp only [ren, ren_below v h]
 | .ptr _ _ _, h => by simp [below] at h
 | .pel _ _ _ _ _, h => by simp [below] at h
 | .ms _ _ _ _ _ _, h => by simp [below] at h
 | .ob _ _, _ | .wsl _, _ | .wp, _ | .w8, _
 | .any, _ | .undef, _ | .int _, _ | .u8 _, _ | .u32 _, _ | .u64 _, _ | .bool _, _ | .str _, _ | .nilp, _ | .ab _, _ | .rw _ _ _, _ | .ai _, _ | .au _, _ | .yl _, _ | .nilf, _ | .nili, _ => by simp only [ren]
theorem renL_below {ρ : Nat → Nat} : ∀ l, belowL 0 l = true → renL ρ l = l
 | [], _ => rfl
 | a :: l, h => by
   simp only [belowL] at h
   split at h
   ·rename_i ha; simp only [renL, ren_below a ha, renL_below l h]
   ·cases h
end

theorem acalls_pure {f : FuncId} {args : List AV} {R : AV} (hb : belowL 0 args = true) (hr : below 0 R = true) (hc : ACalls P f args [] (fun r hh => r = R ∧ hh = [])) (h : List AO) : ACalls P f args h (fun r hh => r = R ∧ hh = h) := by
 have := acalls_local (ns := []) (h := h) (h1 := []) (h1' := []) (h' := h) (args1 := args) (args := args) List.nodup_nil (renL_below args hb).symm rfl (fun j o1 hj => by simp at hj) hc
  ⟨by simp, by simp, fun i _ _ => rfl, fun j hj => by simp at hj⟩
 rw [ren_below R hr] at this
 exact this
theorem SpOK.zero {sp : Sp} (hsp : SpOK P sp) : SpOK P (sp0 sp) := by
 have key : ∀ {sp : Sp} {g : Nat} {e : SpE}, sfind (sp0 sp) g = some e → ∃ e', sfind sp g = some e' ∧ e = ⟨e'.fz, s0f e'.f⟩ := fun {sp} => by
  induction sp with
  | nil => intro g e h; cases h
  | cons x r ih =>
    obtain ⟨j, e0⟩ := x
    intro g e h
    simp only [sp0, sfind] at h ⊢
    split at h
    ·cases h; exact ⟨e0, rfl, rfl⟩
    ·exact ih h
 intro g e he
 obtain ⟨e', h1, rfl⟩ := key he
 obtain ⟨k1, k2⟩ := hsp g e' h1
 refine ⟨fun args h => ?_, k2⟩
 have := k1 args []
 simp only [s0f]
 cases hb : belowL 0 args with
 | false => trivial
 | true =>
   cases hf : e'.f args [] with
   | v C A =>
     rw [hf] at this
     simp only
     cases hA : below 0 A with
     | false => trivial
     | true => exact fun hC => acalls_pure hb hA (this hC) h
   | e C A h1 => trivial
   | k C h1 => trivial
   | no => trivial
theorem s0_call {sp : Sp} {f : AV} {as : List AV} {h h' : List AO} {C : Option Prop} {A : AV} (he : evCall (sp0 sp) h f as = .v C A) : evCall (sp0 sp) h' f as = .v C A := by
 have key : ∀ {sp : Sp} {g : Nat} {e : SpE}, sfind (sp0 sp) g = some e → ∀ as h h', e.f as h = e.f as h' := fun {sp} => by
  induction sp with
  | nil => intro g e h; cases h
  | cons x r ih =>
    obtain ⟨j, e0⟩ := x
    intro g e h
    simp only [sp0, sfind] at h
    split at h
    ·cases h; intro as h h'; rfl
    ·exact ih h
 unfold evCall at he ⊢
 split at he
 ·split at he
  ·rename_i e hs

   split at he
   ·rename_i hz; rw [key hs _ h' h]; exact he
   ·rename_i hz
    split at he
    ·rename_i hm; rw [key hs _ h' h]; exact he
    ·split at he
     ·split at he <;> cases he
     ·cases he
  ·cases he
 ·split at he
  ·rename_i e hs
   split at he
   ·rename_i hz; rw [key hs _ h' h]; exact he
   ·rename_i hz
    split at he
    ·rename_i hm; rw [key hs _ h' h]; exact he
    ·cases he
  ·cases he
 ·cases he
end

def EvOK (P : Program) (o : Oper) (a : Act) (w : World) (B : Base) (E : Env) (h : List AO) : ER → Prop
 | .v C R => holds C → Gives P o a w (Post B E h R)
 | .e C R h' => holds C → Gives P o a w (Post B E h' R)
 | .k C h' => holds C → Gives P o a w (Post B E h' .undef)
 | .no => True

def onlyV : IOp → Bool
 | .alloc _ | .box _ | .bsl _ _ _ _ _ _ | .store _ _ _ | .mksl _ _ _ _ _ _ | .call _ _ | .app _ _ _ _ _ | .conv _ _ => false
 | _ => true
def isV : ER → Bool
 | .v _ _ | .no => true
 | _ => false

theorem isV_evEq {neq : Bool} {k : QK} {x y : AV} : isV (evEq neq k x y) = true := by
 unfold evEq; repeat' split
 all_goals rfl
theorem isV_evBin {op : BinOp} {x y : AV} : isV (evBin op x y) = true := by
 unfold evBin; repeat' split
 all_goals rfl
theorem isV_evConv {h : List AO} {k : CK} {x : AV} (hk : k ≠ .strb true) : isV (evConv h k x) = true := by
 unfold evConv
 split <;> first
  | rfl
  | exact absurd rfl hk
  | (split <;> rfl)
  | ((repeat' split) <;> rfl)
theorem isV_evUn {op : UnOp} {x : AV} : isV (evUn op x) = true := by
 unfold evUn; split <;> rfl
theorem isV_evSlice {s : Nat → AV} {sz : Nat} {x : AV} {lo hi mx : Option X} : isV (evSlice s sz x lo hi mx) = true := by
 unfold evSlice; repeat' split
 all_goals rfl
theorem isV_ofC {x : Option (Option Prop × AV)} : isV (ofC x) = true := by unfold ofC; split <;> rfl
theorem onlyV_ok {sp : Sp} {s : Nat → AV} {h : List AO} {i : IOp} (hi : onlyV i = true) : isV (ev sp s h i) = true := by
 cases i <;> simp only [onlyV, Bool.false_eq_true] at hi
 case mov => rfl
 case pick => simp only [ev]; split <;> rfl
 case build => simp only [ev]; split <;> rfl
 case load n a => cases n <;> (simp only [ev, ldP1, ldPN]; repeat' split) <;> first | rfl | exact isV_ofC
 case nilck => simp only [ev]; split <;> rfl
 case bin => exact isV_evBin
 case eq => exact isV_evEq
 case un => exact isV_evUn
 case mkf => rfl
 case slcS => exact isV_evSlice
 case slcA => simp only [ev]; repeat' split
              all_goals rfl
 case slcT => simp only [ev]; repeat' split
              all_goals rfl
 case fad => simp only [ev]; repeat' split
             all_goals rfl
 case iadA => simp only [ev]; repeat' split
              all_goals rfl
 case iadS => simp only [ev]; repeat' split
              all_goals rfl
 case idx => simp only [ev]; repeat' split
             all_goals rfl
 case ext => simp only [ev]; repeat' split
             all_goals rfl
 case len t x => cases t <;> (simp only [ev]; split) <;> rfl
 case cap => simp only [ev]; repeat' split
             all_goals rfl
 case mn => simp only [ev]; split <;> rfl
 case mx => simp only [ev]; split <;> rfl
 case mkb => rfl
 case mki => rfl
 case bad => rfl

section
variable {P : Program} {ti : Nat → TInf} {B : Base} {E : Env} {h : List AO} {w : World} {g : Nat → AV} {a : Act} {o : Oper} {sp : Sp}

theorem EvOK.ofV {r : ER} (hi : isV r = true) (hv : ∀ C R, r = .v C R → holds C → Gives P o a w (Post B E h R)) : EvOK P o a w B E h r := by
 cases r with
 | v C R => exact hv C R rfl
 | no => trivial
 | e => cases hi
 | k => cases hi

theorem EvOK.bad : EvOK P o a w B E h (ev sp g h .bad) := trivial

theorem gv (m : Mem B E h w) {s : Sem Value} (ho : execOp a.eval o = (do pure (.value (← s)))) {A : AV} (hx : ∃ r, s.run P w = .ok r w ∧ rel E A r) : Gives P o a w (Post B E h A) := by
 obtain ⟨r, h1, h2⟩ := hx
 refine gives_same m (v := r) ?_ h2
 rw [ho]; simp [h1]
theorem gp {s : Sem Value} (ho : execOp a.eval o = (do pure (.value (← s)))) {A : AV} {h' : List AO} (hx : ∃ r w', s.run P w = .ok r w' ∧ Post B E h' A r w') : Gives P o a w (Post B E h' A) := by
 obtain ⟨r, w', h1, h2⟩ := hx
 refine gives_value (v := r) (w' := w') ?_ h2
 rw [ho]; simp [h1]

theorem gp' {s : Sem Value} (ho : ∀ r w', s.run P w = .ok r w' → (execOp a.eval o).run P w = .ok (.value r) w') {A : AV} {h' : List AO} (hx : ∃ r w', s.run P w = .ok r w' ∧ Post B E h' A r w') : Gives P o a w (Post B E h' A) := by
 obtain ⟨r, w', h1, h2⟩ := hx
 exact gives_value (ho r w' h1) h2
theorem gv' (m : Mem B E h w) {s : Sem Value} (ho : ∀ r w', s.run P w = .ok r w' → (execOp a.eval o).run P w = .ok (.value r) w') {A : AV} (hx : ∃ r, s.run P w = .ok r w ∧ rel E A r) : Gives P o a w (Post B E h A) := by
 obtain ⟨r, h1, h2⟩ := hx
 exact gives_same m (ho r w h1) h2

theorem ev_c1 {f : X → IOp} {x : X} (hf : ∀ x, ev sp g h (f x) = ev sp g h (f (.c (xv g x)))) : ev sp g h (f x) = ev sp g h (f (.c (xv g x))) := hf x

theorem mk_load (m : Mem B E h w) (hti : TIok P ti) (hg : ∀ k, rel E (g k) (a.tmps.getD k undef)) {T : TypeId} {x : Operand} (ho : o.op = .load T x) (hd : (ti T).d ≠ .other) : EvOK P o a w B E h (ev sp g h (.load (lsz (ti T)) (xof x))) := by
 have e1 : ev sp g h (.load (lsz (ti T)) (xof x)) = ev sp g h (.load (lsz (ti T)) (.c (xv g (xof x)))) := by cases lsz (ti T) <;> rfl
 refine EvOK.ofV (onlyV_ok rfl) fun C R hev hC => gv m (s := Instr.loadAt T (a.eval x)) (by unfold execOp; simp only [ho]) ?_
 exact load_ok m hti hd (rel_x hg x) (e1 ▸ hev) hC

theorem stZ_spec {A V : AV} (h : stZ A V = true) : ∃ i e k j sz a b l, A = .pel i e k j sz ∧ V = .agg (a :: b :: l) ∧ hasMsL (a :: b :: l) = true := by
 unfold stZ at h
 split at h
 ·exact ⟨_, _, _, _, _, _, _, _, rfl, rfl, h⟩
 ·cases h
theorem stPZ_e {h : List AO} {i e k j sz m : Nat} {d : AV} : (∀ C R h', stPZ h i e k j sz m d ≠ .e C R h') ∧ (∀ C R, stPZ h i e k j sz m d ≠ .v C R) := by
 refine ⟨fun C R h' he => ?_, fun C R he => ?_⟩ <;> simp only [stPZ, stPN] at he <;> (repeat' split at he) <;> cases he
theorem stZ_not {l : List AV} (h : hasMsL l = false) (i e k j sz : Nat) : stZ (.pel i e k j sz) (.agg l) = false := by
 unfold stZ
 split
 ·rename_i a b l' h1 h2
  cases h2
  exact h
 ·rfl
theorem mk_store (m : Mem B E h w) (hti : TIok P ti) (hg : ∀ k, rel E (g k) (a.tmps.getD k undef)) {T : TypeId} {x y : Operand} (ho : o.op = .store T x y) (hd : (ti T).d ≠ .other) (hz : (ti T).size ≠ 0) : EvOK P o a w B E h (ev sp g h (.store (lsz (ti T)) (xof x) (xof y))) := by
 have e1 : ev sp g h (.store (lsz (ti T)) (xof x) (xof y)) = ev sp g h (.store (lsz (ti T)) (.c (xv g (xof x))) (.c (xv g (xof y)))) := by cases lsz (ti T) <;> rfl
 have hX := rel_x hg x
 have hY := rel_x hg y
 rw [e1]
 generalize xv g (xof x) = A at hX ⊢
 generalize xv g (xof y) = V at hY ⊢
 cases hnz : stZ A V with
 | true =>
   obtain ⟨i, e, k, j, sz, a1, b1, l, rfl, rfl, hm⟩ := stZ_spec hnz
   cases hl : lsz (ti T) with
   | none => simp only [ev, xv, one1]; trivial
   | some n =>
     have e2 : ev sp g h (.store (some n) (.c (.pel i e k j sz)) (.c (.agg (a1 :: b1 :: l)))) = stPZ h i e k j sz n (.agg (a1 :: b1 :: l)) := rfl
     rw [e2]
     unfold stPZ
     simp only [hm]
     split
     ·rename_i D l' h1 hf
      split
      ·rename_i hno
       split
       ·rename_i C h2 hst
        intro hC
        obtain ⟨hD, hC⟩ := holds_both.1 hC
        obtain ⟨E', le, m', r'⟩ := frzV_ok (.agg (a1 :: b1 :: l)) h E m (C := D) (A' := .agg l') (h' := h1) (by simp only [frzV, hf]) hD _ hY
        have hno' := stZ_not hno i e k j sz
        have e3 : ev sp g h1 (.store (some n) (.c (.pel i e k j sz)) (.c (.agg l'))) = .k C h2 := by
         show stPZ h1 i e k j sz n (.agg l') = _
         rw [stPZ_no (V := .agg l') rfl hno']
         exact hst
        obtain ⟨w', k1, k2⟩ := store_ok (P := P) (sp := sp) (g := g) m' hti hd hz (rel.mono le _ _ hX) r' hno' (by rw [hl]; exact e3) hC
        refine .inr (.inl ⟨w', ?_, E', le, k2, by simp only [rel]⟩)
        unfold execOp; simp only [ho]; simp [k1]
       ·trivial
      ·trivial
     ·trivial
 | false =>
   cases hr : ev sp g h (.store (lsz (ti T)) (.c A) (.c V)) with
   | no => trivial
   | k C h' =>
     intro hC
     obtain ⟨w', h1, h2⟩ := store_ok (P := P) (sp := sp) (g := g) m hti hd hz hX hY hnz hr hC
     refine .inr (.inl ⟨w', ?_, E, Env.le.refl E, h2, by simp only [rel]⟩)
     unfold execOp; simp only [ho]; simp [h1]
   | v C R => cases hl : lsz (ti T) <;> rw [hl] at hr <;> simp only [ev, stP1] at hr <;> (repeat' split at hr) <;> first | (cases hr; done) | exact absurd hr (stPZ_e.2 _ _)
   | e C R h' => cases hl : lsz (ti T) <;> rw [hl] at hr <;> simp only [ev, stP1] at hr <;> (repeat' split at hr) <;> first | (cases hr; done) | exact absurd hr (stPZ_e.1 _ _ _)

theorem mk_conv (m : Mem B E h w) (hti : TIok P ti) (hg : ∀ k, rel E (g k) (a.tmps.getD k undef)) {s d : TypeId} {x : Operand} (ho : o.op = .convert s d x) {k : CK} (hk : convOf (ti s).d (ti d).d = some k) : EvOK P o a w B E h (ev sp g h (.conv k (xof x))) := by
 have hv : isV (ev sp g h (.conv k (xof x))) = true := by
  refine isV_evConv fun e => ?_
  subst e
  unfold convOf at hk
  split at hk <;> cases hk
 refine EvOK.ofV hv fun C R hev hC => gv m (s := convert s d (a.eval x)) (by unfold execOp; simp only [ho]) ?_
 exact conv_int_ok hti hk (rel_x hg x) (by simpa only [ev] using hev)

theorem mk_strb (m : Mem B E h w) (hti : TIok P ti) (hg : ∀ k, rel E (g k) (a.tmps.getD k undef)) {s d e : TypeId} {x : Operand} (ho : o.op = .convert s d x) (hs : (ti s).d = .str) (hd : (ti d).d = .slice e) (he : (ti e).d = .u8) {mm : Bool} :
  EvOK P o a w B E h (ev sp g h (.conv (.strb mm) (xof x))) := by
 have hx := rel_x hg x
 simp only [ev]
 unfold evConv
 split <;> try contradiction
 all_goals try trivial
 ·rename_i l hc hl
  cases hc
  rw [hl] at hx
  intro _
  obtain ⟨r, w', h1, h2, _⟩ := strb_ok (P := P) m hti hs hd he hx
  exact gp (s := convert s d (a.eval x)) (by unfold execOp; simp only [ho]) ⟨r, w', h1, h2⟩
 ·rename_i l hc hl
  cases hc
  rw [hl] at hx
  intro _
  obtain ⟨r, w', h1, _, h2⟩ := strb_ok (P := P) m hti hs hd he hx
  exact gp (s := convert s d (a.eval x)) (by unfold execOp; simp only [ho]) ⟨r, w', h1, h2⟩


theorem AppT.mk' (hti : TIok P ti) {t tx e : TypeId} (hd : (ti t).d = .slice e) (hde : (ti e).d ≠ .other) (hx : (match (ti tx).d with | .slice _ | .str => true | _ => false) = true) (h1 : (ti e).size ≠ 0) (h2 : (ti e).bytes ≠ 0) : Nonempty (AppT P ti t tx e) := by
 have hT := (hti.get hd (by simp)).desc; rw [hd] at hT
 obtain ⟨⟨i, z, k1, k2, k3, k4, k5, k6⟩, _, _⟩ := hti.get (T := e) rfl hde
 refine ⟨i, z, hT, k1, k4, k2, k3, k6, h1, h2, ?_⟩
 split at hx
 ·rename_i e' he; have := (hti.get he (by simp)).desc; rw [he] at this; exact .inl ⟨_, this⟩
 ·rename_i he; have := (hti.get he (by simp)).desc; rw [he] at this; exact .inr this
 ·cases hx

theorem mk_app (m : Mem B E h w) (hti : TIok P ti) (hg : ∀ k, rel E (g k) (a.tmps.getD k undef)) {c : Call} {x y : Operand} {t tx e : TypeId} (ho : o.op = .call c) (hc : c.callee = .builtin .append) (ha : c.args.toList = [x, y]) (hta : c.argTypes.toList = [t, tx])
  (T : AppT P ti t tx e) {mm : Bool} : EvOK P o a w B E h (ev sp g h (.app mm (ti e).size (ti e).bytes (xof x) (xof y))) := by
 have ha' : c.args = #[x, y] := by rw [← ha]
 have hta' : c.argTypes = #[t, tx] := by rw [← hta]
 have ho' : ∀ r w', (Builtin.append_ #[t, tx] o.type #[a.eval x, a.eval y]).run P w = .ok r w' → (execOp a.eval o).run P w = .ok (.value r) w' := fun r w' hr => by
  unfold execOp
  simp only [ho, resolve, hc, ha', hta', List.map_toArray, List.map_cons, List.map_nil, Sem.run_bind, Sem.run_pure, Result.andThen_ok, invoke, builtin, hr]
 have key := fun C R h' => app_ok (P := P) (ty := o.type) (mm := mm) m T (rel_x hg x) (rel_x hg y) (C := C) (R := R) (h' := h')
 simp only [ev]
 cases hr : evApp h mm (ti e).size (ti e).bytes (xv g (xof x)) (xv g (xof y)) with
 | v C R => exact fun hC => gp' ho' ((key C R h).1 hr hC)
 | e C R h' => exact fun hC => gp' ho' ((key C R h').2 hr hC)
 | no => trivial
 | k C h' =>
   exfalso
   unfold evApp appMs appSl at hr
   (repeat' split at hr) <;> cases hr

theorem mk_len (m : Mem B E h w) (hti : TIok P ti) (hg : ∀ k, rel E (g k) (a.tmps.getD k undef)) {c : Call} {x : Operand} {t : TypeId} (ho : o.op = .call c) (hc : c.callee = .builtin .len) (ha : c.args.toList = [x]) (hta : c.argTypes.toList = [t]) :
  ((ti t).d = .str → EvOK P o a w B E h (ev sp g h (.len true (xof x)))) ∧ (∀ e, (ti t).d = .slice e → EvOK P o a w B E h (ev sp g h (.len false (xof x)))) := by
 have ha' : c.args = #[x] := by rw [← ha]
 have hta' : c.argTypes = #[t] := by rw [← hta]
 have ho' : ∀ r w', (Builtin.len_ #[t] o.type #[a.eval x]).run P w = .ok r w' → (execOp a.eval o).run P w = .ok (.value r) w' := fun r w' hr => by
  unfold execOp
  simp only [ho, resolve, hc, ha', hta', List.map_toArray, List.map_cons, List.map_nil, Sem.run_bind, Sem.run_pure, Result.andThen_ok, invoke, builtin, hr]
 exact ⟨fun hd => EvOK.ofV (onlyV_ok rfl) fun C R hev hC => gv' m ho' (lenT_ok (sp := sp) (g := g) (h := h) hti hd (rel_x hg x) hev), fun e hd => EvOK.ofV (onlyV_ok rfl) fun C R hev hC => gv' m ho' (lenS_ok (sp := sp) (g := g) (h := h) hti hd (rel_x hg x) hev)⟩

theorem mk_cap (m : Mem B E h w) (hti : TIok P ti) (hg : ∀ k, rel E (g k) (a.tmps.getD k undef)) {c : Call} {x : Operand} {t e : TypeId} (ho : o.op = .call c) (hc : c.callee = .builtin .cap) (ha : c.args.toList = [x]) (hta : c.argTypes.toList = [t]) (hd : (ti t).d = .slice e) :
  EvOK P o a w B E h (ev sp g h (.cap (xof x))) := by
 have ha' : c.args = #[x] := by rw [← ha]
 have hta' : c.argTypes = #[t] := by rw [← hta]
 have hT := (hti.get hd (by simp)).desc; rw [hd] at hT
 have ho' : ∀ r w', (Builtin.cap_ #[t] o.type #[a.eval x]).run P w = .ok r w' → (execOp a.eval o).run P w = .ok (.value r) w' := fun r w' hr => by
  unfold execOp
  simp only [ho, resolve, hc, ha', hta', List.map_toArray, List.map_cons, List.map_nil, Sem.run_bind, Sem.run_pure, Result.andThen_ok, invoke, builtin, hr]
 have run : ∀ {ad : Option Addr} {n cap : Nat}, (Builtin.cap_ #[t] o.type #[.slice ad n cap]).run P w = .ok (intv cap) w := by
  intro ad n cap; simp [Builtin.cap_, run_underlying hT, goInt, intv]
 have hx := rel_x hg x
 refine EvOK.ofV (onlyV_ok rfl) fun C R hev hC => gv' m ho' ?_
 simp only [ev] at hev
 split at hev
 ·rename_i nil n sz c' full he
  rw [he] at hx
  simp only [rel] at hx
  split at hev
  ·cases hev
   simp only [if_true] at hx
   rw [hx.1]
   exact ⟨_, run, by simp only [rel]; rfl⟩
  ·split at hev
   ·cases hev
    simp only [Bool.false_eq_true, if_false] at hx
    obtain ⟨ad, cap, vs, hx, _, h4, _⟩ := hx
    rw [hx]
    exact ⟨_, run, by simp only [rel]; rw [h4 trivial]⟩
   ·cases hev
 ·cases hev

set_option maxHeartbeats 4000000 in
theorem ev_ok (m : Mem B E h w) (hti : TIok P ti) (hsp : SpOK P sp) (hg : ∀ k, rel E (g k) (a.tmps.getD k undef)) (mu : List Nat) (o : Oper) : EvOK P o a w B E h (ev sp g h (compOp ti mu o)) := by
 obtain ⟨dst, op, ty, pos, af, gd⟩ := o
 generalize hmm : (match dst with | some d => mu.contains d | none => false) = mm
 cases op with
 | move x => exact EvOK.ofV (onlyV_ok rfl) fun C R hev hC => by cases hev; exact gives_same m rfl (rel_x hg x)
 | assign x => exact EvOK.ofV (onlyV_ok rfl) fun C R hev hC => by cases hev; exact gives_same m rfl (rel_x hg x)
 | pick c x y =>
   refine EvOK.ofV (onlyV_ok rfl) fun C R hev hC => ?_
   simp only [compOp, ev] at hev
   split at hev
   ·rename_i t ht
    cases hev
    have hc := rel_x hg c
    rw [ht] at hc
    simp only [rel] at hc
    refine gives_same m (v := if t then a.eval x else a.eval y) ?_ ?_
    ·unfold execOp; simp [hc, asBool]
    ·cases t
     ·exact rel_x hg y
     ·exact rel_x hg x
   ·cases hev
 | alloc e =>
   simp only [compOp]
   split
   ·exact EvOK.bad
   ·rename_i z hz hd
    exact fun _ => gp (s := Instr.alloc e true (.tuple #[])) rfl (alloc_ok m hti (fun h' => hd h') hz)
   ·exact EvOK.bad
 | box e x =>
   simp only [compOp, ev]
   split
   ·rename_i c hc
    exact fun _ => gp (s := Instr.box e (a.eval x)) rfl (box_ok m (rel_x hg x) hc)
   ·trivial
 | build t parts =>
   have hov : isV (ev sp g h (compOp ti mu ⟨dst, .build t parts, ty, pos, af, gd⟩)) = true := by
    refine onlyV_ok ?_
    simp only [compOp]
    repeat' split
    all_goals rfl
   refine EvOK.ofV hov fun C R hev hC => gv m (s := Instr.build t (parts.map fun (i, x) => (i, a.eval x))) rfl ?_
   exact build_ok hti hg hev
 | buildSlice t n parts =>
   simp only [compOp, hmm]
   split
   ·rename_i e hd
    split
    ·exact EvOK.bad
    ·rename_i hde
     split
     ·rename_i z hz
      split
      ·rename_i ps hps
       split
       ·rename_i hn
        simp only [ev]
        split
        ·rename_i l hl
         split
         ·rename_i c hc
          obtain ⟨v, w', h1, h2, h3⟩ := bsl_ok (P := P) m hti hg hd (fun h' => hde h') hz hps hn hl hc
          split
          ·exact fun _ => gp (s := Instr.buildSlice t n (parts.map fun (i, x) => (i, a.eval x))) rfl ⟨v, w', h1, h3⟩
          ·exact fun _ => gp (s := Instr.buildSlice t n (parts.map fun (i, x) => (i, a.eval x))) rfl ⟨v, w', h1, h2⟩
         ·trivial
        ·trivial
       ·exact EvOK.bad
      ·exact EvOK.bad
     ·exact EvOK.bad
   ·exact EvOK.bad
 | load t x =>
   simp only [compOp]
   split
   ·exact EvOK.bad
   ·rename_i hd
    exact mk_load m hti hg rfl (fun h' => hd h')
 | store t x y =>
   simp only [compOp]
   split
   ·exact EvOK.bad
   ·rename_i hd
    split
    ·exact EvOK.bad
    ·rename_i hz
     exact mk_store m hti hg rfl (fun h' => hd h') hz
 | nilCheck x =>
   refine EvOK.ofV (onlyV_ok rfl) fun C R hev hC => ?_
   have hx := rel_x hg x
   simp only [compOp, ev] at hev
   split at hev
   ·rename_i i e o' he
    cases hev
    rw [he] at hx
    refine gives_same m (v := a.eval x) ?_ hx
    simp only [rel] at hx
    obtain ⟨_, _, ⟨ad, hx⟩, _⟩ := hx
    unfold execOp; simp [hx]
   ·rename_i c he
    cases hev
    rw [he] at hx
    refine gives_same m (v := a.eval x) ?_ hx
    simp only [rel] at hx
    obtain ⟨_, _, _, hx, _⟩ := hx
    unfold execOp; simp [hx]
   ·rename_i f cap he
    cases hev
    rw [he] at hx
    refine gives_same m (v := a.eval x) ?_ hx
    simp only [rel] at hx
    obtain ⟨_, hx, _⟩ := hx
    unfold execOp; simp [hx]
   ·rename_i f cap he
    cases hev
    rw [he] at hx
    refine gives_same m (v := a.eval x) ?_ hx
    simp only [rel] at hx
    obtain ⟨_, hx, _⟩ := hx
    unfold execOp; simp [hx]
   ·rename_i i e k j sz he
    cases hev
    rw [he] at hx
    refine gives_same m (v := a.eval x) ?_ hx
    simp only [rel] at hx
    obtain ⟨_, _, ⟨ad, hx⟩, _⟩ := hx
    unfold execOp; simp [hx]
   ·cases hev
 | binOp op t x y ty' =>
   have other : op ≠ .eql → op ≠ .neq → EvOK P ⟨dst, .binOp op t x y ty', ty, pos, af, gd⟩ a w B E h (ev sp g h (.bin op (xof x) (xof y))) := fun h1 h2 =>
    EvOK.ofV (onlyV_ok rfl) fun C R hev hC => gv m (s := do eqGuard op t x y (a.eval x) (a.eval y); binOp op t (a.eval x) (a.eval y)) rfl (by
     obtain ⟨r, k1, k2, _⟩ := evBin_ok (P := P) (w := w) (T := t) (rel_x hg x) (rel_x hg y) hev hC
     refine ⟨r, ?_, k2⟩
     have hgd : (eqGuard op t x y (a.eval x) (a.eval y)).run P w = .ok () w := by cases op <;> first | rfl | exact absurd rfl h1 | exact absurd rfl h2
     simp only [Sem.run_bind, hgd, Result.andThen_ok, k1])
   cases op
   case eql =>
    simp only [compOp]
    split
    ·rename_i k hk
     refine EvOK.ofV (onlyV_ok rfl) fun C R hev hC => gv m (s := do eqGuard .eql t x y (a.eval x) (a.eval y); binOp .eql t (a.eval x) (a.eval y)) rfl ?_
     exact evEq_ok (neq := false) hti hk (rel_x hg x) (rel_x hg y) hev
    ·exact EvOK.bad
   case neq =>
    simp only [compOp]
    split
    ·rename_i k hk
     refine EvOK.ofV (onlyV_ok rfl) fun C R hev hC => gv m (s := do eqGuard .neq t x y (a.eval x) (a.eval y); binOp .neq t (a.eval x) (a.eval y)) rfl ?_
     exact evEq_ok (neq := true) hti hk (rel_x hg x) (rel_x hg y) hev
    ·exact EvOK.bad
   all_goals exact other (by simp) (by simp)
 | unOp op t x => exact EvOK.ofV (onlyV_ok rfl) fun C R hev hC => gv m (s := Op.unary op (a.eval x)) rfl (un_ok (rel_x hg x) hev)
 | convert s d x =>
   simp only [compOp, hmm]
   split
   ·rename_i e hs hd
    split
    ·rename_i he; exact mk_strb m hti hg rfl hs hd he
    ·exact EvOK.bad
   ·rename_i e hs hd
    split
    ·rename_i he
     refine EvOK.ofV (show isV (evConv h .bstr (xv g (xof x))) = true from isV_evConv (fun hh => by cases hh)) fun C R hev hC => gv m (s := convert s d (a.eval x)) rfl ?_
     exact bstr_ok m hti hs hd he (rel_x hg x) hev hC
    ·exact EvOK.bad
   ·rename_i e e' hs hd
    split
    ·rename_i he
     split
     ·rename_i hsd
      subst hsd
      refine EvOK.ofV (show isV (evConv h .mark (xv g (xof x))) = true from isV_evConv (fun hh => by cases hh)) fun C R hev hC => gp (s := convert s s (a.eval x)) rfl ?_
      exact mark_ok m hti hs he (rel_x hg x) hev hC
     ·exact EvOK.bad
    ·exact EvOK.bad
   ·split
    ·rename_i k hk; exact mk_conv m hti hg rfl hk
    ·exact EvOK.bad
 | makeFunc fn first cap =>
   cases fn with
   | func f =>
     simp only [compOp]
     split
     ·rename_i hfi
      refine EvOK.ofV (onlyV_ok rfl) fun C R hev hC => ?_
      cases hev
      have : first = #[] := by simpa using hfi
      subst this
      refine gives_same m (v := .func (.func f) #[] (cap.map a.eval)) ?_ ?_
      ·unfold execOp; simp [Instr.makeFunc]
      ·simp only [rel]
       exact ⟨_, rfl, by rw [Array.toList_map]; exact relL_xvs hg cap.toList⟩
     ·split
      ·rename_i hfi
       refine EvOK.ofV (onlyV_ok rfl) fun C R hev hC => ?_
       cases hev
       have : cap = #[] := by simpa using hfi
       subst this
       refine gives_same m (v := .func (.func f) (first.map a.eval) #[]) ?_ ?_
       ·unfold execOp; simp [Instr.makeFunc]
       ·simp only [rel]
        exact ⟨_, rfl, by rw [Array.toList_map]; exact relL_xvs hg first.toList⟩
      ·exact EvOK.bad
   | _ => exact EvOK.bad
 | makeSlice t l c =>
   simp only [compOp]
   split
   ·rename_i e hd
    split
    ·exact EvOK.bad
    ·rename_i hde
     split
     ·rename_i z hz
      split
      ·exact EvOK.bad
      ·rename_i hn
       simp only [ev]
       split
       ·rename_i l' c' hl hc
        intro hC
        simp only [holds] at hC
        have h1 := rel_x hg l; rw [hl] at h1
        have h2 := rel_x hg c; rw [hc] at h2
        simp only [rel] at h1 h2
        refine gp (s := Instr.makeSlice t (a.eval l) (a.eval c)) rfl ?_
        rw [h1, h2]
        have hk : zok (ekOf (ti e).d) z = true := by
         cases hzk : zok (ekOf (ti e).d) z
         ·exact absurd (.inr (.inr hzk)) hn
         ·rfl
        exact mksl_ok m hti hd (fun h' => hde h') hz hk (fun h' => hn (.inr (.inl h'))) hC.1 hC.2.1 hC.2.2
       ·trivial
     ·exact EvOK.bad
   ·exact EvOK.bad
 | slice t x lo hi mx =>
   simp only [compOp]
   split
   ·rename_i e hd
    split
    ·exact EvOK.bad
    ·rename_i hde
     refine EvOK.ofV (onlyV_ok rfl) fun C R hev hC => gv m (s := Instr.sliceAt t (a.eval x) (lo.map a.eval) (hi.map a.eval) (mx.map a.eval)) rfl ?_
     exact slcS_ok hti hg hd (fun h' => hde h') hev hC
   ·rename_i n e hd
    split
    ·exact EvOK.bad
    ·rename_i hde
     refine EvOK.ofV (onlyV_ok rfl) fun C R hev hC => gv m (s := Instr.sliceAt t (a.eval x) (lo.map a.eval) (hi.map a.eval) (Option.map a.eval none)) rfl ?_
     exact slcA_ok m hti hg hd (fun h' => hde h') hev hC
    ·exact EvOK.bad
   ·rename_i hd
    split
    ·refine EvOK.ofV (onlyV_ok rfl) fun C R hev hC => gv m (s := Instr.sliceAt t (a.eval x) (lo.map a.eval) (hi.map a.eval) (Option.map a.eval none)) rfl ?_
     exact slcT_ok hti hg hd hev hC
    ·exact EvOK.bad
   ·exact EvOK.bad
 | fieldAddr s x f =>
   simp only [compOp]
   split
   ·rename_i offs hd
    split
    ·rename_i off z hf
     split
     ·exact EvOK.bad
     ·rename_i hz
      refine EvOK.ofV (onlyV_ok rfl) fun C R hev hC => gv m (s := Instr.fieldAt s (a.eval x) f) rfl ?_
      exact fad_ok (sp := sp) (g := g) (h := h) hti hd hf hz (rel_x hg x) hev
    ·exact EvOK.bad
   ·exact EvOK.bad
 | indexAddr t x i =>
   simp only [compOp]
   split
   ·rename_i e hd
    split
    ·exact EvOK.bad
    ·rename_i hde
     split
     ·exact EvOK.bad
     ·rename_i hz
      refine EvOK.ofV (onlyV_ok rfl) fun C R hev hC => gv m (s := Instr.indexAt t (a.eval x) (a.eval i)) rfl ?_
      exact iadS_ok (sp := sp) (g := g) (h := h) hti hd (fun h' => hde h') hz (rel_x hg x) (rel_x hg i) hev hC
   ·rename_i n e hd
    split
    ·exact EvOK.bad
    ·rename_i hde
     split
     ·exact EvOK.bad
     ·rename_i hn
      refine EvOK.ofV (onlyV_ok rfl) fun C R hev hC => gv m (s := Instr.indexAt t (a.eval x) (a.eval i)) rfl ?_
      exact iadA_ok (sp := sp) (g := g) (h := h) hti hd (fun h' => hde h') hn (rel_x hg x) (rel_x hg i) hev hC
   ·exact EvOK.bad
 | index t x i =>
   simp only [compOp]
   split
   ·rename_i hd
    refine EvOK.ofV (onlyV_ok rfl) fun C R hev hC => gv m (s := Instr.index t (a.eval x) (a.eval i)) rfl ?_
    exact idx_ok (sp := sp) (g := g) (h := h) hti hd (rel_x hg x) (rel_x hg i) hev hC
   ·exact EvOK.bad
 | extract x k => exact EvOK.ofV (onlyV_ok rfl) fun C R hev hC => gv m (s := Instr.extract (a.eval x) k) rfl (ext_ok (sp := sp) (g := g) (h := h) (rel_x hg x) hev)
 | makeInterface t x =>
   simp only [compOp]
   split
   ·exact EvOK.bad
   ·exact EvOK.bad
   ·rename_i hd1 hd2
    refine EvOK.ofV (onlyV_ok rfl) fun C R hev hC => ?_
    cases hev
    refine gv m (s := Instr.makeInterface t (a.eval x)) rfl ⟨.iface t (a.eval x), ?_, by simp only [rel]; exact ⟨_, rfl, rel_x hg x⟩⟩
    have hT := (hti.get (T := t) rfl (fun h' => hd1 h')).desc
    cases hd : (ti t).d <;> rw [hd] at hT <;> simp only [Desc] at hT
    case iface => exact absurd hd hd2
    case other => exact absurd hd hd1
    case ptr => obtain ⟨_, hT⟩ := hT; simp [Instr.makeInterface, run_underlying hT]
    case struct => obtain ⟨_, hT, _⟩ := hT; simp [Instr.makeInterface, run_underlying hT]
    case func => obtain ⟨_, _, _, hT⟩ := hT; simp [Instr.makeInterface, run_underlying hT]
    case tuple => obtain ⟨_, hT⟩ := hT; simp [Instr.makeInterface, run_underlying hT]
    all_goals simp [Instr.makeInterface, run_underlying hT]
 | call c =>
   obtain ⟨callee, args, argTypes⟩ := c
   cases callee with
   | value f =>
     have key := fun C R => call_ok (o := ⟨dst, .call ⟨.value f, args, argTypes⟩, ty, pos, af, gd⟩) m hsp hg (c := ⟨.value f, args, argTypes⟩) (f := f) rfl rfl (C := C) (R := R)
     simp only [compOp, ev]
     cases hr : evCall sp h (xv g (xof f)) (xvs g (args.toList.map xof)) with
     | v C R => exact fun hC => (key C R).1 hr hC
     | e C R h' => exact fun hC => (key C R).2 h' hr hC
     | no => trivial
     | k C h' =>
       exfalso
       have hno : ∀ {F e as h0}, sfind sp F = some e → e.f as h0 ≠ .k C h' := fun {F e as h0} he hk => by
        have := (hsp F e he).1 as h0
        rw [hk] at this; exact this
       unfold evCall at hr
       split at hr
       ·split at hr
        ·rename_i he
         split at hr
         ·exact hno he hr
         ·split at hr
          ·exact hno he hr
          ·split at hr
           ·split at hr <;> cases hr
           ·cases hr
        ·cases hr
       ·split at hr
        ·rename_i he
         split at hr
         ·exact hno he hr
         ·split at hr
          ·exact hno he hr
          ·cases hr
        ·cases hr
       ·cases hr
   | builtin b =>
     cases b
     case append =>
      simp only [compOp, hmm]
      split
      ·rename_i x y t u ha hta
       split
       ·rename_i e hd
        split
        ·exact EvOK.bad
        ·rename_i hde
         split
         ·rename_i l hz hu
          split
          ·exact EvOK.bad
          ·rename_i hn
           obtain ⟨T⟩ := AppT.mk' hti hd (fun h' => hde h') hu (fun h' => hn (.inl h')) (fun h' => hn (.inr h'))
           exact mk_app m hti hg rfl rfl ha hta T
         ·exact EvOK.bad
       ·exact EvOK.bad
      ·exact EvOK.bad
     case len =>
      simp only [compOp]
      split
      ·rename_i x t ha hta
       have key := mk_len (sp := sp) (o := ⟨dst, .call ⟨.builtin .len, args, argTypes⟩, ty, pos, af, gd⟩) m hti hg (c := ⟨.builtin .len, args, argTypes⟩) rfl rfl ha hta
       split
       ·rename_i e hd; exact key.2 _ hd
       ·rename_i hd; exact key.1 hd
       ·exact EvOK.bad
      ·exact EvOK.bad
     case cap =>
      simp only [compOp]
      split
      ·rename_i x t ha hta
       split
       ·rename_i e hd
        exact mk_cap (sp := sp) (o := ⟨dst, .call ⟨.builtin .cap, args, argTypes⟩, ty, pos, af, gd⟩) m hti hg (c := ⟨.builtin .cap, args, argTypes⟩) rfl rfl ha hta hd
       ·exact EvOK.bad
      ·exact EvOK.bad
     case min =>
      simp only [compOp]
      split
      ·rename_i x y ha
       have ha' : args = #[x, y] := by rw [← ha]
       subst ha'
       refine EvOK.ofV (onlyV_ok rfl) fun C R hev hC => ?_
       simp only [ev] at hev
       split at hev
       ·rename_i i j hi hj
        cases hev
        have h1 := rel_x hg x; rw [hi] at h1
        have h2 := rel_x hg y; rw [hj] at h2
        simp only [rel, intv] at h1 h2
        refine gives_same m (v := .int .i64 (if j < i then j else i)) ?_ (by simp only [rel, intv])
        have := run_min_int2 (P := P) w argTypes ty .i64 .i64 i j
        unfold execOp
        simp only [resolve, List.map_toArray, List.map_cons, List.map_nil, h1, h2, Sem.run_bind, Sem.run_pure, Result.andThen_ok, invoke, builtin, this]
       ·cases hev
      ·exact EvOK.bad
     case max =>
      simp only [compOp]
      split
      ·rename_i x y ha
       have ha' : args = #[x, y] := by rw [← ha]
       subst ha'
       refine EvOK.ofV (onlyV_ok rfl) fun C R hev hC => ?_
       simp only [ev] at hev
       split at hev
       ·rename_i i j hi hj
        cases hev
        have h1 := rel_x hg x; rw [hi] at h1
        have h2 := rel_x hg y; rw [hj] at h2
        simp only [rel, intv] at h1 h2
        refine gives_same m (v := .int .i64 (if i < j then j else i)) ?_ (by simp only [rel, intv])
        have := run_max_int2 (P := P) w argTypes ty .i64 .i64 i j
        unfold execOp
        simp only [resolve, List.map_toArray, List.map_cons, List.map_nil, h1, h2, Sem.run_bind, Sem.run_pure, Result.andThen_ok, invoke, builtin, this]
       ·cases hev
      ·exact EvOK.bad
     all_goals exact EvOK.bad
   | invoke recv name => exact EvOK.bad
 | _ => exact EvOK.bad

end

theorem xv_congr {g g' : Nat → AV} {x : X} (h : ∀ n ∈ xslots [x], g n = g' n) : xv g x = xv g' x := by
 cases x with
 | t n => exact h n (by simp [xslots])
 | c A => rfl
theorem mem_xslots_cons {x : X} {xs : List X} {n : Nat} : n ∈ xslots (x :: xs) ↔ n ∈ xslots [x] ∨ n ∈ xslots xs := by
 cases x <;> simp [xslots]
theorem xvs_congr {g g' : Nat → AV} : ∀ {xs : List X}, (∀ n ∈ xslots xs, g n = g' n) → xvs g xs = xvs g' xs
 | [], _ => rfl
 | x :: xs, h => by
   simp only [xvs]
   rw [xv_congr (x := x) fun n hn => h n (mem_xslots_cons.2 (.inl hn)), xvs_congr fun n hn => h n (mem_xslots_cons.2 (.inr hn))]
theorem xi_congr {g g' : Nat → AV} {x : Option X} (h : ∀ n ∈ oslots x, g n = g' n) : xi g x = xi g' x := by
 cases x with
 | none => rfl
 | some x =>
   cases x with
   | t n => simp only [xi, xv]; rw [h n (by simp [oslots])]
   | c A => rfl
theorem lay_congr {g g' : Nat → AV} : ∀ {ps : List (Nat × Nat × X)} {z : List AV}, (∀ n ∈ xslots (ps.map (·.2.2)), g n = g' n) → lay g z ps = lay g' z ps
 | [], _, _ => rfl
 | (off, size, x) :: ps, z, h => by
   simp only [lay]
   rw [xv_congr (x := x) fun n hn => h n (by simp only [List.map_cons]; exact mem_xslots_cons.2 (.inl hn))]
   split
   ·split
    ·split
     ·exact lay_congr fun n hn => h n (by simp only [List.map_cons]; exact mem_xslots_cons.2 (.inr hn))
     ·rfl
    ·rfl
   ·rfl

theorem ev_congr {sp : Sp} {g g' : Nat → AV} {h : List AO} {o : IOp} (hg : ∀ n ∈ looks o, g n = g' n) : ev sp g h o = ev sp g' h o := by
 have one : ∀ {x : X} {xs : List X}, (∀ n ∈ xslots xs, g n = g' n) → x ∈ xs → xv g x = xv g' x := fun {x xs} h hx => by
  refine xv_congr fun n hn => h n ?_
  clear h
  induction xs with
  | nil => cases hx
  | cons y ys ih =>
    rcases List.mem_cons.1 hx with rfl | hx
    ·exact mem_xslots_cons.2 (.inl hn)
    ·exact mem_xslots_cons.2 (.inr (ih hx))
 cases o with
 | mov x => simp only [ev, one (x := x) hg (by simp)]
 | pick c a b => simp only [ev, one (x := c) hg (by simp), one (x := a) hg (by simp), one (x := b) hg (by simp)]
 | alloc z => rfl
 | box x => simp only [ev, one (x := x) hg (by simp)]
 | build z ps => simp only [ev, lay_congr (z := z) (ps := ps) hg]
 | bsl m k sz n z ps => simp only [ev, lay_congr (z := lrep n z) (ps := ps) hg]
 | load n x => cases n <;> simp only [ev, one (x := x) hg (by simp)]
 | store n x v => cases n <;> simp only [ev, one (x := x) hg (by simp), one (x := v) hg (by simp)]
 | nilck x => simp only [ev, one (x := x) hg (by simp)]
 | bin op x y => simp only [ev, one (x := x) hg (by simp), one (x := y) hg (by simp)]
 | eq n k x y => simp only [ev, one (x := x) hg (by simp), one (x := y) hg (by simp)]
 | un op x => simp only [ev, one (x := x) hg (by simp)]
 | conv k x => simp only [ev, one (x := x) hg (by simp)]
 | mkf f cap => simp only [ev, xvs_congr hg]
 | mkb f cap => simp only [ev, xvs_congr hg]
 | mksl k sz b z x y => simp only [ev, one (x := x) hg (by simp), one (x := y) hg (by simp)]
 | slcS sz x lo hi mx =>
   simp only [looks, List.mem_append] at hg
   simp only [ev, evSlice, xv_congr (x := x) fun n hn => hg n (by simp [hn]), xi_congr (x := lo) fun n hn => hg n (by simp [hn]), xi_congr (x := hi) fun n hn => hg n (by simp [hn]), xi_congr (x := mx) fun n hn => hg n (by simp [hn])]
 | slcA k sz x lo hi =>
   simp only [looks, List.mem_append] at hg
   simp only [ev, xv_congr (x := x) fun n hn => hg n (by simp [hn]), xi_congr (x := lo) fun n hn => hg n (by simp [hn]), xi_congr (x := hi) fun n hn => hg n (by simp [hn])]
 | slcT x lo hi =>
   simp only [looks, List.mem_append] at hg
   simp only [ev, xv_congr (x := x) fun n hn => hg n (by simp [hn]), xi_congr (x := lo) fun n hn => hg n (by simp [hn]), xi_congr (x := hi) fun n hn => hg n (by simp [hn])]
 | fad off x => simp only [ev, one (x := x) hg (by simp)]
 | iadA k sz x y => simp only [ev, one (x := x) hg (by simp), one (x := y) hg (by simp)]
 | iadS sz x y => simp only [ev, one (x := x) hg (by simp), one (x := y) hg (by simp)]
 | idx x y => simp only [ev, one (x := x) hg (by simp), one (x := y) hg (by simp)]
 | ext x k => simp only [ev, one (x := x) hg (by simp)]
 | call f as =>
   simp only [looks] at hg
   simp only [ev, xv_congr (x := f) fun n hn => hg n (mem_xslots_cons.2 (.inl hn)), xvs_congr (xs := as) fun n hn => hg n (mem_xslots_cons.2 (.inr hn))]
 | app m sz b x y => simp only [ev, one (x := x) hg (by simp), one (x := y) hg (by simp)]
 | len t x => cases t <;> simp only [ev, one (x := x) hg (by simp)]
 | cap x => simp only [ev, one (x := x) hg (by simp)]
 | mn x y => simp only [ev, one (x := x) hg (by simp), one (x := y) hg (by simp)]
 | mx x y => simp only [ev, one (x := x) hg (by simp), one (x := y) hg (by simp)]
 | mki t x => simp only [ev, one (x := x) hg (by simp)]
 | bad => rfl

def vOnly : ER → ER
 | .v C A => .v C A
 | _ => .no
theorem kls0 {pures : List Nat} {sp : Sp} {g : Nat → AV} {h h' : List AO} {o : IOp} (hk : kls pures o = 0) : vOnly (ev (sp0 sp) g h o) = vOnly (ev (sp0 sp) g h' o) := by
 cases o
 case call f as =>
  simp only [ev]
  cases h1 : evCall (sp0 sp) h (xv g f) (xvs g as) with
  | v C A => rw [s0_call h1]
  | e C A h2 =>
    cases h3 : evCall (sp0 sp) h' (xv g f) (xvs g as) with
    | v C A => rw [s0_call h3] at h1; cases h1
    | _ => rfl
  | k C h2 =>
    cases h3 : evCall (sp0 sp) h' (xv g f) (xvs g as) with
    | v C A => rw [s0_call h3] at h1; cases h1
    | _ => rfl
  | no =>
    cases h3 : evCall (sp0 sp) h' (xv g f) (xvs g as) with
    | v C A => rw [s0_call h3] at h1; cases h1
    | _ => rfl
 all_goals (simp only [kls] at hk) <;> try contradiction
 case bsl m k sz n z ps =>
  cases m
  ·simp only [ev]
  ·simp at hk
 case conv k x =>
  cases k <;> try (simp only [ev, evConv]; done)
  case strb m =>
   cases m
   ·simp only [ev, evConv]; cases xv g x <;> rfl
   ·simp at hk
  all_goals first | (simp at hk; done) | (simp only [ev, evConv]; cases xv g x <;> rfl)
 case app m _ _ _ _ => cases m <;> simp at hk
 case len t x => cases t <;> simp only [ev]
 all_goals first | rfl | simp only [ev]

def gd (g : Nat → AV) : Option (Nat × Bool) → Option Bool
 | none => some true
 | some (d, b) => match g d with
   | .bool p => some (p == b)
   | .undef => some false
   | _ => none
def upd (g : Nat → AV) : Option Nat → AV → Nat → AV
 | none, _ => g
 | some d, A => fun k => if k = d then A else g k
def keptR (a : AV) (h : List AO) : ER → ER
 | .v C A => .v C A
 | .e C A h' => match a with
   | .ptr i _ _ => .e (both C (some (hget h' i = hget h i))) A h'
   | _ => .no
 | _ => .no
def sameR (h : List AO) : ER → ER
 | .v C A => .v C A
 | .e C A h' => .v (both C (some (h' = h))) A
 | _ => .no
def evc (sp : Sp) (g : Nat → AV) (h : List AO) (co : CO) : ER :=
 match Nat.beq co.c 2 with
 | true => ev sp g h co.o
 | false => match Nat.ble co.c 1 with
   | true => vOnly (ev (sp0 sp) g h co.o)
   | false => match Nat.ble 5 co.c with
     | true => keptR (g (co.c - 5)) h (ev sp g h co.o)
     | false => sameR h (ev sp g h co.o)
open Classical in
noncomputable def astep (sp : Sp) (co : CO) (st : (Nat → AV) × List AO) : Option ((Nat → AV) × List AO) :=
 match gd st.1 co.g with
 | some true => match evc sp st.1 st.2 co with
   | .v C A => if holds C then some (upd st.1 co.d A, st.2) else none
   | .e C A h' => if holds C then some (upd st.1 co.d A, h') else none
   | .k C h' => if holds C then some (upd st.1 co.d .undef, h') else none
   | .no => none
 | some false => some (upd st.1 co.d .undef, st.2)
 | none => none

theorem evc_v {sp : Sp} {g : Nat → AV} {h : List AO} {co : CO} (hc : co.c ≤ 1) : evc sp g h co = vOnly (ev (sp0 sp) g h co.o) := by
 unfold evc; split
 ·rename_i e; exact absurd (Nat.eq_of_beq_eq_true e) (by omega)
 ·rw [Nat.ble_eq_true_of_le hc]

theorem evc_congr {sp : Sp} {g g' : Nat → AV} {h : List AO} {co : CO} (hg : ∀ n ∈ COlooks co, g n = g' n) : evc sp g h co = evc sp g' h co := by
 have hg' : ∀ n ∈ looks co.o, g n = g' n := fun n hn => hg n (List.mem_append_right _ hn)
 unfold evc
 rw [ev_congr (sp := sp) hg', ev_congr (sp := sp0 sp) hg']
 split
 ·rfl
 ·split
  ·rfl
  ·split
   ·rename_i h5
    rw [hg (co.c - 5) (List.mem_append_left _ (List.mem_append_right _ (by unfold cslot; rw [h5]; simp)))]
   ·rfl
theorem gd_congr {g g' : Nat → AV} {co : CO} (hg : ∀ n ∈ COlooks co, g n = g' n) : gd g co.g = gd g' co.g := by
 obtain ⟨d, o, gg, c⟩ := co
 cases gg with
 | none => rfl
 | some x => obtain ⟨k, b⟩ := x; simp only [gd]; rw [hg k (by simp [COlooks])]
theorem looks_sub {co : CO} {n : Nat} (h : n ∈ looks co.o) : n ∈ COlooks co := by unfold COlooks; exact List.mem_append_right _ h

open Classical in
noncomputable def adel (sp : Sp) (co : CO) (g : Nat → AV) (h : List AO) : Option (AV × List AO) :=
 match gd g co.g with
 | some true => match evc sp g h co with
   | .v C A => if holds C then some (A, h) else none
   | .e C A h' => if holds C then some (A, h') else none
   | .k C h' => if holds C then some (.undef, h') else none
   | .no => none
 | some false => some (.undef, h)
 | none => none
theorem astep_eq (sp : Sp) (co : CO) (g : Nat → AV) (h : List AO) : astep sp co (g, h) = (adel sp co g h).map fun r => (upd g co.d r.1, r.2) := by
 unfold astep adel
 simp only
 split
 ·split <;> (try split) <;> simp
 ·simp
 ·simp
theorem adel_congr {sp : Sp} {co : CO} {g g' : Nat → AV} {h : List AO} (hg : ∀ n ∈ COlooks co, g n = g' n) : adel sp co g h = adel sp co g' h := by
 unfold adel
 rw [gd_congr hg, evc_congr hg]
theorem evc_no {sp : Sp} {co : CO} {g : Nat → AV} {h : List AO} (hc : co.c ≠ 2 ∧ co.c < 5) : (∀ C A h', evc sp g h co ≠ .e C A h') ∧ ∀ C h', evc sp g h co ≠ .k C h' := by
 unfold evc
 split
 ·rename_i e; exact absurd (Nat.eq_of_beq_eq_true e) hc.1
 ·split
  ·unfold vOnly; refine ⟨fun C A h' he => ?_, fun C h' he => ?_⟩ <;> split at he <;> cases he
  ·split
   ·rename_i e; exact absurd (Nat.le_of_ble_eq_true e) (by omega)
   ·unfold sameR; refine ⟨fun C A h' he => ?_, fun C h' he => ?_⟩ <;> split at he <;> cases he
theorem adel_heap {sp : Sp} {co : CO} {g : Nat → AV} {h : List AO} (hc : co.c ≠ 2 ∧ co.c < 5) {r : AV × List AO} (hr : adel sp co g h = some r) : r.2 = h := by
 obtain ⟨n1, n2⟩ := evc_no (sp := sp) (g := g) (h := h) hc
 unfold adel at hr
 split at hr
 ·split at hr <;> rename_i he
  ·split at hr <;> cases hr; rfl
  ·exact absurd he (n1 _ _ _)
  ·exact absurd he (n2 _ _)
  ·cases hr
 ·cases hr; rfl
 ·cases hr
theorem adel_kept {sp : Sp} {co : CO} {p : Nat} (hc : co.c = p + 5) {g : Nat → AV} {h h1 : List AO} {A : AV} (hr : adel sp co g h = some (A, h1)) : h1 = h ∨ ∃ i e o, g p = .ptr i e o ∧ hget h1 i = hget h i := by
 have hev : evc sp g h co = keptR (g p) h (ev sp g h co.o) := by
  unfold evc
  split
  ·rename_i e; have := Nat.eq_of_beq_eq_true e; omega
  ·split
   ·rename_i e; have := Nat.le_of_ble_eq_true e; omega
   ·split
    ·rw [show co.c - 5 = p by omega]
    ·rename_i e; rw [Nat.ble_eq_true_of_le (by omega)] at e; cases e
 unfold adel at hr
 rw [hev] at hr
 split at hr
 ·split at hr <;> rename_i he
  ·split at hr
   ·cases hr; exact .inl rfl
   ·cases hr
  ·split at hr
   ·rename_i hh
    cases hr
    unfold keptR at he
    split at he
    ·cases he
    ·split at he
     ·rename_i i e o hg
      cases he
      exact .inr ⟨i, e, o, hg, (holds_both.1 hh).2⟩
     ·cases he
    ·cases he
   ·cases hr
  ·unfold keptR at he
   split at he
   ·cases he
   ·split at he <;> cases he
   ·cases he
  ·cases hr
 ·cases hr; exact .inl rfl
 ·cases hr
theorem adel_zero {pures : List Nat} {sp : Sp} {co : CO} {g : Nat → AV} {h h' : List AO} (hc : co.c = 0) (hk : kls pures co.o = 0) {A : AV} {h1 : List AO} (hr : adel sp co g h = some (A, h1)) : adel sp co g h' = some (A, h') := by
 unfold adel at hr ⊢
 rw [evc_v (by omega)] at hr ⊢
 rw [kls0 (h' := h') hk] at hr
 split at hr
 ·split at hr <;> rename_i he
  ·split at hr
   ·rename_i hh; cases hr; simp [he, hh]
   ·cases hr
  ·unfold vOnly at he; split at he <;> cases he
  ·unfold vOnly at he; split at he <;> cases he
  ·cases hr
 ·cases hr; rfl
 ·cases hr

theorem upd_look {g : Nat → AV} {d : Option Nat} {A : AV} {co : CO} (h : (match d with | some d => !(COlooks co).contains d | none => true) = true) : ∀ n ∈ COlooks co, upd g d A n = g n := by
 intro n hn
 cases d with
 | none => rfl
 | some d =>
   simp only [upd]
   rw [if_neg]
   intro e; subst e
   simp at h; exact h hn

theorem commute_of {sp : Sp} {a b : CO} (hab : slotsApart a b = true) {st s2 : (Nat → AV) × List AO}
  (hkey : ∀ A ha1 Bv hb1, adel sp a st.1 st.2 = some (A, ha1) → adel sp b st.1 ha1 = some (Bv, hb1) → ∃ hb2, adel sp b st.1 st.2 = some (Bv, hb2) ∧ adel sp a st.1 hb2 = some (A, hb1))
  (h : (astep sp a st).bind (astep sp b) = some s2) : (astep sp b st).bind (astep sp a) = some s2 := by
 obtain ⟨g, h0⟩ := st
 unfold slotsApart at hab
 simp only [Bool.and_eq_true] at hab
 obtain ⟨h1, h2⟩ := hab
 rw [astep_eq] at h
 cases hra : adel sp a g h0 with
 | none => rw [hra] at h; simp at h
 | some ra =>
   obtain ⟨A, ha1⟩ := ra
   rw [hra] at h
   simp only [Option.map_some, Option.bind_some] at h
   rw [astep_eq] at h
   have hlb : ∀ n ∈ COlooks b, upd g a.d A n = g n := upd_look (by
    cases hd : a.d with
    | none => rfl
    | some d => rw [hd] at h1; simp only [Bool.and_eq_true] at h1; exact h1.1)
   rw [adel_congr hlb] at h
   cases hrb : adel sp b g ha1 with
   | none => rw [hrb] at h; simp at h
   | some rb =>
     obtain ⟨Bv, hb1⟩ := rb
     rw [hrb] at h
     simp only [Option.map_some, Option.some.injEq] at h
     have hla : ∀ n ∈ COlooks a, upd g b.d Bv n = g n := upd_look h2
     have hup : upd (upd g b.d Bv) a.d A = upd (upd g a.d A) b.d Bv := by
      funext k
      cases hda : a.d with
      | none => rfl
      | some x =>
        cases hdb : b.d with
        | none => rfl
        | some y =>
          rw [hda, hdb] at h1
          simp only [Bool.and_eq_true, bne_iff_ne, ne_eq, Option.some.injEq] at h1
          simp only [upd]
          by_cases e1 : k = x
          ·subst e1; rw [if_pos rfl, if_neg (fun e => h1.2 e.symm), if_pos rfl]
          ·rw [if_neg e1, if_neg e1]
     obtain ⟨hb2, k1, k2⟩ := hkey A ha1 Bv hb1 hra hrb
     rw [astep_eq, k1]
     simp only [Option.map_some, Option.bind_some]
     rw [astep_eq, adel_congr hla, k2]
     simp only [Option.map_some, Option.some.injEq]
     rw [hup]; exact h

def objOf : AV → Option Nat
 | .ptr i _ _ => some i
 | .ms _ i _ _ _ _ => some i
 | _ => none
def byVal : AV → Bool
 | .rop _ => true
 | .sl _ _ _ _ _ => true
 | _ => false
def Dis (A Bv : AV) : Prop := (∃ i j, objOf A = some i ∧ objOf Bv = some j ∧ i ≠ j) ∨ byVal A = true
theorem rslot_eq {o : IOp} {p : Nat} (h : rslot o = some p) : (∃ n, o = .load n (.t p)) ∨ (∃ sz i, o = .iadS sz (.t p) i) ∨ o = .conv .mark (.t p) := by
 unfold rslot at h; split at h <;> cases h
 ·exact .inl ⟨_, rfl⟩
 ·exact .inr (.inl ⟨_, _, rfl⟩)
 ·exact .inr (.inr rfl)
theorem wslot_eq {o : IOp} {q : Nat} (h : wslot o = some q) : ∃ n x, o = .store n (.t q) x := by
 unfold wslot at h; split at h <;> cases h
 exact ⟨_, _, rfl⟩
theorem wslot_looks {co : CO} {q : Nat} (h : wslot co.o = some q) : q ∈ COlooks co := by
 unfold COlooks
 obtain ⟨n, x, e⟩ := wslot_eq h
 rw [e]; exact List.mem_append_right _ (by simp [looks, xslots])
theorem rslot_looks {co : CO} {q : Nat} (h : rslot co.o = some q) : q ∈ COlooks co := by
 unfold COlooks
 rcases rslot_eq h with ⟨n, e⟩ | ⟨sz, i, e⟩ | e
 ·rw [e]; exact List.mem_append_right _ (by simp [looks, xslots])
 ·rw [e]; exact List.mem_append_right _ (by cases i <;> simp [looks, xslots])
 ·rw [e]; exact List.mem_append_right _ (by simp [looks, xslots])
theorem read_other {sp : Sp} {a : CO} {g : Nat → AV} {h h' : List AO} (hc : a.c ≤ 1) (e : ev (sp0 sp) g h a.o = ev (sp0 sp) g h' a.o) {A : AV} {h1 : List AO} (hr : adel sp a g h = some (A, h1)) :
  adel sp a g h' = some (A, h') := by
 have e0 := adel_heap (by omega) hr
 simp only at e0; subst e0
 unfold adel at hr ⊢
 rw [evc_v hc] at hr ⊢
 rw [e] at hr
 split at hr
 ·split at hr <;> rename_i he
  ·split at hr
   ·rename_i hh; cases hr; simp [he, hh]
   ·cases hr
  ·unfold vOnly at he; split at he <;> cases he
  ·unfold vOnly at he; split at he <;> cases he
  ·cases hr
 ·cases hr; rfl
 ·cases hr
theorem load_other {sp : Sp} {a : CO} {n : Option Nat} {p : Nat} (hl : a.o = .load n (.t p)) (hc : a.c ≤ 1) {g : Nat → AV} {h h' : List AO} (hh : (∃ i, objOf (g p) = some i ∧ hget h i = hget h' i) ∨ byVal (g p) = true) {A : AV} {h1 : List AO} (hr : adel sp a g h = some (A, h1)) :
  adel sp a g h' = some (A, h') := by
 refine read_other hc ?_ hr
 rw [hl]
 rcases hh with ⟨i, h1, h2⟩ | h1
 ·unfold objOf at h1
  split at h1 <;> rename_i hg
  ·cases h1
   cases n <;> simp only [ev, xv, hg]
   ·rw [h2]
   ·rw [h2]
  ·cases n <;> simp only [ev, xv, hg]
  ·cases h1
 ·unfold byVal at h1
  split at h1 <;> rename_i hg <;> first | (cases h1; done) | (cases n <;> simp only [ev, xv, hg])
theorem reads_other {sp : Sp} {a : CO} {p : Nat} (ha : rslot a.o = some p) (hc : a.c ≤ 1) {g : Nat → AV} {h h' : List AO} (hh : (∃ i, objOf (g p) = some i ∧ hget h i = hget h' i) ∨ byVal (g p) = true) {A : AV} {h1 : List AO} (hr : adel sp a g h = some (A, h1)) :
  adel sp a g h' = some (A, h') := by
 rcases rslot_eq ha with ⟨n, hl⟩ | ⟨sz, i, hl⟩ | hl
 ·exact load_other hl hc hh hr
 ·refine read_other hc ?_ hr
  rw [hl]
  rcases hh with ⟨i', h1, h2⟩ | h1
  ·unfold objOf at h1
   split at h1 <;> rename_i hg
   ·simp only [ev, xv, hg]
   ·cases h1
    simp only [ev]
    rw [show xv g (.t p) = g p from rfl, hg]
    cases xv g i <;> try rfl
    simp only [elP, h2]
   ·cases h1
  ·unfold byVal at h1
   split at h1 <;> rename_i hg <;> first | (cases h1; done) | (simp only [ev]; rw [show xv g (.t p) = g p from rfl, hg]; try (cases xv g i <;> rfl))
 ·refine read_other hc ?_ hr
  rw [hl]
  rcases hh with ⟨i', h1, h2⟩ | h1
  ·unfold objOf at h1
   split at h1 <;> rename_i hg
   ·simp only [ev, xv, hg, evConv]
   ·cases h1
    rename_i nl e o n sz
    cases nl <;> simp only [ev, xv, hg, evConv]
    rw [h2]
   ·cases h1
  ·unfold byVal at h1
   split at h1 <;> rename_i hg <;> first | (cases h1; done) | simp only [ev, xv, hg, evConv]
theorem bslot_eq {o : IOp} {p : Nat} (h : bslot o = some p) : rslot o = some p ∨ o = .conv .bstr (.t p) := by
 unfold bslot at h; split at h <;> cases h
 ·exact .inl rfl
 ·exact .inl rfl
 ·exact .inl rfl
 ·exact .inr rfl
theorem bread_other {sp : Sp} {a : CO} {p : Nat} (ha : bslot a.o = some p) (hc : a.c ≤ 1) {g : Nat → AV} {h h' : List AO} (hh : (∃ i, objOf (g p) = some i ∧ hget h i = hget h' i) ∨ byVal (g p) = true) {A : AV} {h1 : List AO} (hr : adel sp a g h = some (A, h1)) :
  adel sp a g h' = some (A, h') := by
 rcases bslot_eq ha with hl | hl
 ·exact reads_other hl hc hh hr
 refine read_other hc ?_ hr
 rw [hl]
 rcases hh with ⟨i', h1, h2⟩ | h1
 ·unfold objOf at h1
  split at h1 <;> rename_i hg
  ·simp only [ev, xv, hg, evConv, rdS]
  ·cases h1
   simp only [ev, xv, hg, evConv, rdS, h2]
  ·cases h1
 ·unfold byVal at h1
  split at h1 <;> rename_i hg <;> first | (cases h1; done) | simp only [ev, xv, hg, evConv, rdS]
theorem hget_hset {h : List AO} {i j : Nat} {v : AO} (hij : i ≠ j) : hget (hset h j v) i = hget h i := by
 rw [hget_eq, hget_eq, hset_eq, List.getElem?_set_ne (Ne.symm hij)]
theorem write_other {sp : Sp} {b : CO} {q : Nat} (hl : wslot b.o = some q) {g : Nat → AV} {h h1 : List AO} {j : Nat} (hq : objOf (g q) = some j) {A : AV} (hr : adel sp b g h = some (A, h1)) {i : Nat} (hij : i ≠ j) : hget h1 i = hget h i := by
 have hev : ∀ {sp : Sp} {r : ER}, ev sp g h b.o = r → (∀ C A h', r = .e C A h' → hget h' i = hget h i) ∧ (∀ C h', r = .k C h' → hget h' i = hget h i) := fun {sp r} he => by
  subst he
  obtain ⟨n, x, e⟩ := wslot_eq hl
  rw [e]
  unfold objOf at hq
  split at hq <;> cases hq <;> rename_i hgq
  ·refine ⟨fun C A h' he => ?_, fun C h' he => ?_⟩
   ·cases n <;> simp only [ev, xv, hgq, stP1] at he <;> (repeat' split at he) <;> first | (cases he; done) | contradiction | (simp_all; done)
   ·cases n <;> simp only [ev, xv, hgq, stP1] at he <;> (repeat' split at he) <;> first | (cases he; exact hget_hset hij) | (cases he; injections; subst_vars; exact hget_hset hij) | (cases he; simp_all; done) | (cases he; done) | contradiction | (simp_all; done)
  ·refine ⟨fun C A h' he => ?_, fun C h' he => ?_⟩ <;> cases n <;> simp only [ev, xv, hgq] at he <;> cases he
 have hevc : (∀ C A h', evc sp g h b = .e C A h' → hget h' i = hget h i) ∧ (∀ C h', evc sp g h b = .k C h' → hget h' i = hget h i) := by
  unfold evc
  split
  ·exact ⟨fun C A h' he => (hev he).1 _ _ _ rfl, fun C h' he => (hev he).2 _ _ rfl⟩
  ·split
   ·unfold vOnly; refine ⟨fun C A h' he => ?_, fun C h' he => ?_⟩ <;> split at he <;> cases he
   ·split
    ·unfold keptR
     refine ⟨fun C A h' he => ?_, fun C h' he => ?_⟩
     ·split at he
      ·cases he
      ·rename_i he0
       split at he
       ·cases he; exact (hev he0).1 _ _ _ rfl
       ·cases he
      ·cases he
     ·split at he
      ·cases he
      ·split at he <;> cases he
      ·cases he
    ·unfold sameR; refine ⟨fun C A h' he => ?_, fun C h' he => ?_⟩ <;> split at he <;> cases he
 unfold adel at hr
 split at hr
 ·split at hr <;> rename_i he
  ·split at hr <;> cases hr; rfl
  ·split at hr <;> cases hr
   exact hevc.1 _ _ _ he
  ·split at hr <;> cases hr
   exact hevc.2 _ _ he
  ·cases hr
 ·cases hr; rfl
 ·cases hr

theorem commute_ls {sp : Sp} {a b : CO} (hab : slotsApart a b = true) {p q : Nat} (ha : rslot a.o = some p) (hc : a.c ≤ 1) (hb : wslot b.o = some q) {st s2 : (Nat → AV) × List AO} (hd : Dis (st.1 p) (st.1 q))
  (h : (astep sp a st).bind (astep sp b) = some s2) : (astep sp b st).bind (astep sp a) = some s2 := by
 refine commute_of hab (fun A ha1 Bv hb1 hra hrb => ?_) h
 have e := adel_heap (by omega) hra
 simp only at e; subst e
 refine ⟨hb1, hrb, reads_other ha hc ?_ hra⟩
 rcases hd with ⟨i, j, h1, h2, h3⟩ | h1
 ·exact .inl ⟨i, h1, (write_other hb h2 hrb h3).symm⟩
 ·exact .inr h1
theorem commute_sl {sp : Sp} {a b : CO} (hab : slotsApart a b = true) {p q : Nat} (ha : wslot a.o = some q) (hb : rslot b.o = some p) (hc : b.c ≤ 1) {st s2 : (Nat → AV) × List AO} (hd : Dis (st.1 p) (st.1 q))
  (h : (astep sp a st).bind (astep sp b) = some s2) : (astep sp b st).bind (astep sp a) = some s2 := by
 refine commute_of hab (fun A ha1 Bv hb1 hra hrb => ?_) h
 have e := adel_heap (by omega) hrb
 simp only at e; subst e
 refine ⟨st.2, reads_other hb hc ?_ hrb, hra⟩
 rcases hd with ⟨i, j, h1, h2, h3⟩ | h1
 ·exact .inl ⟨i, h1, write_other ha h2 hra h3⟩
 ·exact .inr h1
theorem commute_va {sp : Sp} {a b : CO} (hab : slotsApart a b = true) {p : Nat} (ha : rslot a.o = some p) (hc : a.c ≤ 1) {st s2 : (Nat → AV) × List AO} (hd : byVal (st.1 p) = true)
  (h : (astep sp a st).bind (astep sp b) = some s2) : (astep sp b st).bind (astep sp a) = some s2 := by
 refine commute_of hab (fun A ha1 Bv hb1 hra hrb => ?_) h
 have e := adel_heap (by omega) hra
 simp only at e; subst e
 exact ⟨hb1, hrb, reads_other ha hc (.inr hd) hra⟩
theorem commute_vb {sp : Sp} {a b : CO} (hab : slotsApart a b = true) {p : Nat} (hb : rslot b.o = some p) (hc : b.c ≤ 1) {st s2 : (Nat → AV) × List AO} (hd : byVal (st.1 p) = true)
  (h : (astep sp a st).bind (astep sp b) = some s2) : (astep sp b st).bind (astep sp a) = some s2 := by
 refine commute_of hab (fun A ha1 Bv hb1 hra hrb => ?_) h
 have e := adel_heap (by omega) hrb
 simp only at e; subst e
 exact ⟨st.2, reads_other hb hc (.inr hd) hrb, hra⟩
theorem dis_self {A : AV} (h : Dis A A) : byVal A = true := by
 rcases h with ⟨i, j, h1, h2, h3⟩ | h
 ·rw [h1] at h2; cases h2; exact absurd rfl h3
 ·exact h
theorem mslot_eq {co : CO} {q : Nat} (h : mslot co = some q) : co.g = none ∧ co.d = some q ∧ co.c = 2 ∧ ((∃ k sz n z ps, co.o = .bsl true k sz n z ps) ∨ ∃ sz b x y, co.o = .app true sz b x y) := by
 obtain ⟨d, o, g, c⟩ := co
 unfold mslot at h
 dsimp only at h
 split at h
 ·split at h
  ·split at h
   ·exact ⟨rfl, h, rfl, .inl ⟨_, _, _, _, _, rfl⟩⟩
   ·cases h
  ·split at h
   ·exact ⟨rfl, h, rfl, .inr ⟨_, _, _, _, rfl⟩⟩
   ·cases h
  ·cases h
 ·cases h
theorem hget_hsnoc {h : List AO} {x : AO} {i : Nat} (hi : i ≠ hlen h) : hget (hsnoc h x) i = hget h i := by
 rw [hsnoc_eq, hget_eq, hget_eq]
 rw [hlen_eq] at hi
 rcases Nat.lt_or_ge i h.length with hl | hl
 ·exact List.getElem?_append_left hl
 ·rw [List.getElem?_eq_none_iff.2 (by rw [List.length_append]; simp; omega), List.getElem?_eq_none_iff.2 hl]
theorem making_ev {sp : Sp} {g : Nat → AV} {h : List AO} {o : IOp} (ho : (∃ k sz n z ps, o = .bsl true k sz n z ps) ∨ ∃ sz b x y, o = .app true sz b x y) :
  (∀ C A h1, ev sp g h o = .e C A h1 → ∃ j, objOf A = some j ∧ ∀ i, i ≠ j → hget h1 i = hget h i) ∧ (∀ C A, ev sp g h o ≠ .v C A) ∧ (∀ C h1, ev sp g h o ≠ .k C h1) := by
 rcases ho with ⟨k, sz, n, z, ps, rfl⟩ | ⟨sz, b, x, y, rfl⟩
 ·simp only [ev]
  refine ⟨fun C A h1 he => ?_, fun C A he => ?_, fun C h1 he => ?_⟩
  ·(repeat' split at he) <;> cases he
   exact ⟨_, rfl, fun i hi => hget_hsnoc hi⟩
  ·(repeat' split at he) <;> cases he
  ·(repeat' split at he) <;> cases he
 ·simp only [ev, evApp, appSl, appMs]
  refine ⟨fun C A h1 he => ?_, fun C A he => ?_, fun C h1 he => ?_⟩
  ·(repeat' split at he) <;> cases he <;> first | exact ⟨_, rfl, fun i hi => hget_hsnoc hi⟩ | exact ⟨_, rfl, fun i hi => hget_hset hi⟩
  ·(repeat' split at he) <;> cases he
  ·(repeat' split at he) <;> cases he
theorem making {sp : Sp} {b : CO} {q : Nat} (hm : mslot b = some q) {g : Nat → AV} {h h1 : List AO} {A : AV} (hr : adel sp b g h = some (A, h1)) : ∃ j, objOf A = some j ∧ ∀ i, i ≠ j → hget h1 i = hget h i := by
 obtain ⟨e1, e2, e3, e4⟩ := mslot_eq hm
 obtain ⟨k1, k2, k3⟩ := making_ev (sp := sp) (g := g) (h := h) e4
 have hevc : evc sp g h b = ev sp g h b.o := by unfold evc; rw [e3] <;> rfl
 unfold adel at hr
 rw [e1, hevc] at hr
 simp only [gd] at hr
 split at hr
 ·rename_i C A' he
  exact absurd he (k2 _ _)
 ·rename_i C A' h' he
  split at hr
  ·cases hr
   exact k1 _ _ _ he
  ·cases hr
 ·rename_i C h' he
  exact absurd he (k3 _ _)
 ·cases hr
theorem two_vals {sp : Sp} {a b : CO} (hab : slotsApart a b = true) {g : Nat → AV} {h ha1 hb1 : List AO} {A Bv : AV} {s3 : (Nat → AV) × List AO} (hra : adel sp a g h = some (A, ha1)) (hrb : adel sp b g ha1 = some (Bv, hb1)) (h3 : (astep sp a (g, h)).bind (astep sp b) = some s3) : (∀ q, b.d = some q → s3.1 q = Bv) ∧ (∀ q, a.d = some q → s3.1 q = A) := by
 unfold slotsApart at hab
 simp only [Bool.and_eq_true] at hab
 obtain ⟨h1, h2⟩ := hab
 have hlb : ∀ n ∈ COlooks b, upd g a.d A n = g n := upd_look (by
  cases hd : a.d with
  | none => rfl
  | some d => rw [hd] at h1; simp only [Bool.and_eq_true] at h1; exact h1.1)
 rw [astep_eq, hra] at h3
 simp only [Option.map_some, Option.bind_some] at h3
 rw [astep_eq, adel_congr hlb, hrb] at h3
 simp only [Option.map_some, Option.some.injEq] at h3
 subst h3
 refine ⟨fun q hq => ?_, fun q hq => ?_⟩
 ·simp only [hq, upd, if_true]
 ·rw [hq] at h1 ⊢
  simp only [Bool.and_eq_true, bne_iff_ne, ne_eq] at h1
  cases hb : b.d with
  | none => simp only [upd, if_true]
  | some d =>
    rw [hb] at h1
    simp only [upd, if_true]
    rw [if_neg]
    intro e; subst e; exact h1.2 rfl
theorem commute_bm {sp : Sp} {a b : CO} (hab : slotsApart a b = true) {p q : Nat} (ha : bslot a.o = some p) (hc : a.c ≤ 1) (hb : mslot b = some q) {st s3 : (Nat → AV) × List AO} (hd : Dis (st.1 p) (s3.1 q))
  (h : (astep sp a st).bind (astep sp b) = some s3) : (astep sp b st).bind (astep sp a) = some s3 := by
 refine commute_of hab (fun A ha1 Bv hb1 hra hrb => ?_) h
 have hv := (two_vals hab hra hrb h).1 q (mslot_eq hb).2.1
 have e := adel_heap (by omega) hra
 simp only at e; subst e
 refine ⟨hb1, hrb, bread_other ha hc ?_ hra⟩
 rw [hv] at hd
 obtain ⟨j', k1, k2⟩ := making hb hrb
 rcases hd with ⟨i, j, h1, h2, h3⟩ | h1
 ·rw [k1] at h2; cases h2
  exact .inl ⟨i, h1, (k2 i h3).symm⟩
 ·exact .inr h1
theorem commute_mb {sp : Sp} {a b : CO} (hab : slotsApart a b = true) {p q : Nat} (ha : mslot a = some q) (hb : bslot b.o = some p) (hc : b.c ≤ 1) {st s3 : (Nat → AV) × List AO} (hd : Dis (st.1 p) (s3.1 q))
  (h : (astep sp a st).bind (astep sp b) = some s3) : (astep sp b st).bind (astep sp a) = some s3 := by
 refine commute_of hab (fun A ha1 Bv hb1 hra hrb => ?_) h
 have hv := (two_vals hab hra hrb h).2 q (mslot_eq ha).2.1
 have e := adel_heap (by omega) hrb
 simp only at e; subst e
 refine ⟨st.2, bread_other hb hc ?_ hrb, hra⟩
 rw [hv] at hd
 obtain ⟨j', k1, k2⟩ := making ha hra
 rcases hd with ⟨i, j, h1, h2, h3⟩ | h1
 ·rw [k1] at h2; cases h2
  exact .inl ⟨i, h1, k2 i h3⟩
 ·exact .inr h1

theorem commute {pures : List Nat} {sp : Sp} {a b : CO} (hab : apart a b = true) (ha : a.c ≠ 2 → a.c = kls pures a.o) (hb : b.c ≠ 2 → b.c = kls pures b.o) {st s2 : (Nat → AV) × List AO}
  (h : (astep sp a st).bind (astep sp b) = some s2) : (astep sp b st).bind (astep sp a) = some s2 := by
 unfold apart at hab
 obtain ⟨hs, h3⟩ := (Bool.and_eq_true _ _).mp hab
 refine commute_of hs (fun A ha1 Bv hb1 hra hrb => ?_) h
 rcases (Bool.or_eq_true _ _).mp h3 with h3 | h3
 ·rcases (Bool.or_eq_true _ _).mp h3 with h3 | h3
  ·rcases (Bool.or_eq_true _ _).mp h3 with h3 | h3
   ·have h0a : a.c = 0 := by simpa using h3
    have e := adel_heap (by omega) hra
    simp only at e; subst e
    exact ⟨hb1, hrb, adel_zero h0a (by rw [← ha (by omega)]; exact h0a) hra⟩
   ·have h0b : b.c = 0 := by simpa using h3
    have e := adel_heap (by omega) hrb
    simp only at e; subst e
    exact ⟨_, adel_zero h0b (by rw [← hb (by omega)]; exact h0b) hrb, hra⟩
  ·simp only [readsC, Bool.and_eq_true, Bool.or_eq_true, beq_iff_eq] at h3
   have e := adel_heap (by omega) hra
   have e' := adel_heap (by omega) hrb
   simp only at e e'; subst e; subst e'
   exact ⟨_, hrb, hra⟩
 ·rcases (Bool.or_eq_true _ _).mp h3 with h3 | h3
  ·unfold keepsL at h3
   split at h3
   ·rename_i n p hl
    simp only [Bool.and_eq_true, beq_iff_eq] at h3
    have e := adel_heap (by omega) hra
    simp only at e; subst e
    refine ⟨hb1, hrb, ?_⟩
    rcases adel_kept h3.2 hrb with rfl | ⟨i, e, o, k1, k2⟩
    ·exact hra
    ·exact load_other hl (by omega) (.inl ⟨i, by rw [k1]; rfl, k2.symm⟩) hra
   ·cases h3
  ·unfold keepsL at h3
   split at h3
   ·rename_i n p hl
    simp only [Bool.and_eq_true, beq_iff_eq] at h3
    have e := adel_heap (by omega) hrb
    simp only at e; subst e
    refine ⟨st.2, ?_, hra⟩
    rcases adel_kept h3.2 hra with rfl | ⟨i, e, o, k1, k2⟩
    ·exact hrb
    ·exact load_other hl (by omega) (.inl ⟨i, by rw [k1]; rfl, k2⟩) hrb
   ·cases h3

noncomputable def afold (sp : Sp) (cs : List CO) : List Nat → (Nat → AV) × List AO → Option ((Nat → AV) × List AO)
 | [], st => some st
 | i :: l, st => match cs[i]? with
   | some co => (astep sp co st).bind (afold sp cs l)
   | none => afold sp cs l st

theorem afold_app (sp : Sp) (cs : List CO) : ∀ (l m : List Nat) (st), afold sp cs (l ++ m) st = (afold sp cs l st).bind (afold sp cs m)
 | [], m, st => by simp [afold]
 | i :: l, m, st => by
   simp only [List.cons_append, afold]
   split
   ·cases astep sp _ st with
    | none => rfl
    | some s => simp only [Option.bind_some]; exact afold_app sp cs l m s
   ·exact afold_app sp cs l m st

theorem astep_other {sp : Sp} {co : CO} {st s2 : (Nat → AV) × List AO} (h : astep sp co st = some s2) {p : Nat} (hp : co.d ≠ some p) : s2.1 p = st.1 p := by
 obtain ⟨g, h0⟩ := st
 rw [astep_eq] at h
 cases hr : adel sp co g h0 with
 | none => rw [hr] at h; cases h
 | some r =>
   rw [hr] at h
   simp only [Option.map_some, Option.some.injEq] at h
   subst h
   cases hd : co.d with
   | none => rfl
   | some d =>
     simp only [upd]
     rw [if_neg]
     intro e; subst e; exact hp hd
theorem afold_other {sp : Sp} {cs : List CO} {p : Nat} : ∀ {l : List Nat} {st s2 : (Nat → AV) × List AO}, afold sp cs l st = some s2 → (∀ k ∈ l, ∀ co, cs[k]? = some co → co.d ≠ some p) → s2.1 p = st.1 p
 | [], st, s2, h, _ => by simp only [afold, Option.some.injEq] at h; rw [h]
 | i :: l, st, s2, h, hp => by
   simp only [afold] at h
   cases hi : cs[i]? with
   | none => rw [hi] at h; exact afold_other h fun k hk => hp k (List.mem_cons_of_mem _ hk)
   | some co =>
     rw [hi] at h
     simp only at h
     cases hs : astep sp co st with
     | none => rw [hs] at h; cases h
     | some s1 =>
       rw [hs] at h
       rw [afold_other (by simpa using h) fun k hk => hp k (List.mem_cons_of_mem _ hk)]
       exact astep_other hs (hp i (by simp) co hi)

theorem writersOK_ok {cs : List CO} {p k : Nat} (h : writersOK cs p k = true) {w : Nat} {co : CO} (hw : cs[w]? = some co) (hd : co.d = some p) : w < k := by
 unfold writersOK at h
 have := List.all_eq_true.1 h w (List.mem_range.2 (List.getElem?_eq_some_iff.1 hw).1)
 rw [hw] at this
 simp only [Bool.or_eq_true, bne_iff_ne, ne_eq, decide_eq_true_eq] at this
 rcases this with h | h
 ·exact absurd hd h
 ·exact h

theorem slotsApart_d {a b : CO} (h : slotsApart a b = true) : (∀ d, a.d = some d → d ∉ COlooks b) ∧ (∀ d, b.d = some d → d ∉ COlooks a) := by
 unfold slotsApart at h
 simp only [Bool.and_eq_true] at h
 constructor
 ·intro d hd; rw [hd] at h; simp only [Bool.and_eq_true, Bool.not_eq_true'] at h
  intro hm; have := h.1.1; simp [hm] at this
 ·intro d hd; rw [hd] at h; simp only [Bool.not_eq_true'] at h
  intro hm; have := h.2; simp [hm] at this

theorem bslot_looks {co : CO} {q : Nat} (h : bslot co.o = some q) : q ∈ COlooks co := by
 rcases bslot_eq h with hl | hl
 ·exact rslot_looks hl
 ·unfold COlooks
  rw [hl]; exact List.mem_append_right _ (by simp [looks, xslots])
theorem slotsApart_dd {a b : CO} (h : slotsApart a b = true) {q : Nat} (h1 : a.d = some q) (h2 : b.d = some q) : False := by
 unfold slotsApart at h
 rw [h1, h2] at h
 simp at h
theorem afold_first {pures : List Nat} {sp : Sp} {cs : List CO} {cf : List (Nat × Nat)} {i : Nat} {b : CO} (hi : cs[i]? = some b) (hcl : ∀ co ∈ cs, co.c ≠ 2 → co.c = kls pures co.o) {s2 : (Nat → AV) × List AO} (hdis : ∀ x ∈ cf, Dis (s2.1 x.1) (s2.1 x.2)) :
  ∀ (l : List Nat) {m : List Nat} {st : (Nat → AV) × List AO}, (∀ j ∈ l, j < i) → (∀ k ∈ m, i < k) → l.Pairwise (· < ·) →
  (∀ j ∈ l, ∀ a, cs[j]? = some a → apart a b = true ∨ ∃ x ∈ cf, confOf cs j i a b = some x) → afold sp cs (l ++ i :: m) st = some s2 → afold sp cs (i :: (l ++ m)) st = some s2
 | [], m, st, _, _, _, _, h => h
 | j :: l, m, st, hlt, hgt, hpw, hap, h => by
   have hji : j < i := hlt j (by simp)
   have hjl : ∀ k ∈ l, j < k := fun k hk => List.rel_of_pairwise_cons hpw hk
   have hpw' := (List.pairwise_cons.1 hpw).2
   simp only [List.cons_append, afold] at h
   cases hj : cs[j]? with
   | none =>
     rw [hj] at h
     have := afold_first hi hcl hdis l (fun j' hj' => hlt j' (List.mem_cons_of_mem _ hj')) hgt hpw' (fun j' hj' => hap j' (List.mem_cons_of_mem _ hj')) h
     simp only [List.cons_append, afold, hi, hj] at this ⊢
     exact this
   | some a =>
     rw [hj] at h
     simp only at h
     cases hs : astep sp a st with
     | none => rw [hs] at h; simp at h
     | some s1 =>
       rw [hs] at h
       simp only [Option.bind_some] at h
       have := afold_first hi hcl hdis l (fun j' hj' => hlt j' (List.mem_cons_of_mem _ hj')) hgt hpw' (fun j' hj' => hap j' (List.mem_cons_of_mem _ hj')) h
       simp only [afold, hi] at this
       simp only [List.cons_append, afold, hi, hj]
       cases hb : astep sp b s1 with
       | none => rw [hb] at this; simp at this
       | some s3 =>
         rw [hb] at this
         simp only [Option.bind_some] at this
         have hbind : (astep sp a st).bind (astep sp b) = some s3 := by rw [hs]; simp only [Option.bind_some]; exact hb
         -- a slot that is not written from here on
         have late : ∀ p, a.d ≠ some p → b.d ≠ some p → (∀ k ∈ l ++ m, ∀ co, cs[k]? = some co → co.d ≠ some p) → s2.1 p = st.1 p := fun p h1 h2 h3 => by
          rw [afold_other this h3, astep_other hb h2, astep_other hs h1]
         have hc : (astep sp b st).bind (astep sp a) = some s3 := by
          rcases hap j (by simp) a hj with h1 | ⟨x, hx, hcf⟩
          ·exact commute h1 (hcl a (List.mem_of_getElem? hj)) (hcl b (List.mem_of_getElem? hi)) hbind
          ·have hd := hdis x hx
           have sl : ∀ k ∈ l, ∀ co, cs[k]? = some co → slotsApart co b = true := fun k hk co hco => by
            have hsl : slotsApart co b = true := by
             rcases hap k (List.mem_cons_of_mem _ hk) co hco with h1 | ⟨y, _, hy⟩
             ·unfold apart at h1; exact ((Bool.and_eq_true _ _).mp h1).1
             ·unfold confOf at hy
              split at hy
              ·split at hy
               ·rename_i hh; simp only [Bool.and_eq_true] at hh; exact hh.1.1.1
               ·cases hy
              ·split at hy
               ·split at hy
                ·rename_i hh; simp only [Bool.and_eq_true] at hh; exact hh.1.1.1
                ·cases hy
               ·unfold confM at hy
                split at hy
                ·split at hy
                 ·rename_i hh; simp only [Bool.and_eq_true] at hh; exact hh.1.1.1
                 ·cases hy
                ·split at hy
                 ·split at hy
                  ·rename_i hh; simp only [Bool.and_eq_true] at hh; exact hh.1.1.1
                  ·cases hy
                 ·unfold confV at hy
                  split at hy
                  ·split at hy
                   ·rename_i hh; simp only [Bool.and_eq_true] at hh; exact hh.1.1
                   ·cases hy
                  ·split at hy
                   ·split at hy
                    ·rename_i hh; simp only [Bool.and_eq_true] at hh; exact hh.1.1
                    ·cases hy
                   ·cases hy
            exact hsl
           have lw : ∀ p, p ∈ COlooks b → ∀ k ∈ l, ∀ co, cs[k]? = some co → co.d ≠ some p := fun p hp k hk co hco hd' => (slotsApart_d (sl k hk co hco)).1 p hd' hp
           unfold confOf at hcf
           split at hcf
           ·rename_i p q ho1 ho2
            split at hcf
            ·rename_i hh
             cases hcf
             simp only [Bool.and_eq_true, beq_iff_eq] at hh
             obtain ⟨⟨⟨g1, g2⟩, g3⟩, g4⟩ := hh
             have ep := late p (fun e => Nat.lt_irrefl _ (writersOK_ok g3 hj e)) (fun e => (slotsApart_d g1).2 p e (rslot_looks ho1)) (fun k hk co hco e => by
              have := writersOK_ok g3 hco e
              rcases List.mem_append.1 hk with hk | hk
              ·have := hjl k hk; omega
              ·have := hgt k hk; omega)
             have eq := late q (fun e => (slotsApart_d g1).1 q e (wslot_looks ho2)) (fun e => Nat.lt_irrefl _ (writersOK_ok g4 hi e)) (fun k hk co hco e => by
              rcases List.mem_append.1 hk with hk | hk
              ·exact lw q (wslot_looks ho2) k hk co hco e
              ·have := writersOK_ok g4 hco e; have := hgt k hk; omega)
             simp only at hd
             rw [ep, eq] at hd
             exact commute_ls g1 ho1 (by omega) ho2 hd hbind
            ·cases hcf
           ·split at hcf
            ·rename_i q p ho1 ho2
             split at hcf
             ·rename_i hh
              cases hcf
              simp only [Bool.and_eq_true, beq_iff_eq] at hh
              obtain ⟨⟨⟨g1, g2⟩, g3⟩, g4⟩ := hh
              have eq := late q (fun e => Nat.lt_irrefl _ (writersOK_ok g4 hj e)) (fun e => (slotsApart_d g1).2 q e (wslot_looks ho1)) (fun k hk co hco e => by
               have := writersOK_ok g4 hco e
               rcases List.mem_append.1 hk with hk | hk
               ·have := hjl k hk; omega
               ·have := hgt k hk; omega)
              have ep := late p (fun e => (slotsApart_d g1).1 p e (rslot_looks ho2)) (fun e => Nat.lt_irrefl _ (writersOK_ok g3 hi e)) (fun k hk co hco e => by
               rcases List.mem_append.1 hk with hk | hk
               ·exact lw p (rslot_looks ho2) k hk co hco e
               ·have := writersOK_ok g3 hco e; have := hgt k hk; omega)
              simp only at hd
              rw [ep, eq] at hd
              exact commute_sl g1 ho1 ho2 (by omega) hd hbind
             ·cases hcf
            ·unfold confM at hcf
             split at hcf
             ·rename_i p q ho1 ho2
              split at hcf
              ·rename_i hh
               cases hcf
               simp only [Bool.and_eq_true, beq_iff_eq] at hh
               obtain ⟨⟨⟨g1, g2⟩, g3⟩, g4⟩ := hh
               have hq := (mslot_eq ho2).2.1
               have ep := late p (fun e => Nat.lt_irrefl _ (writersOK_ok g3 hj e)) (fun e => (slotsApart_d g1).2 p e (bslot_looks ho1)) (fun k hk co hco e => by
                have := writersOK_ok g3 hco e
                rcases List.mem_append.1 hk with hk | hk
                ·have := hjl k hk; omega
                ·have := hgt k hk; omega)
               have eq : s2.1 q = s3.1 q := afold_other this fun k hk co hco e => by
                rcases List.mem_append.1 hk with hk | hk
                ·exact slotsApart_dd (sl k hk co hco) e hq
                ·have := writersOK_ok g4 hco e; have := hgt k hk; omega
               simp only at hd
               rw [ep, eq] at hd
               exact commute_bm g1 ho1 (by omega) ho2 hd hbind
              ·cases hcf
             ·split at hcf
              ·rename_i q p ho1 ho2
               split at hcf
               ·rename_i hh
                cases hcf
                simp only [Bool.and_eq_true, beq_iff_eq] at hh
                obtain ⟨⟨⟨g1, g2⟩, g3⟩, g4⟩ := hh
                have ep := late p (fun e => (slotsApart_d g1).1 p e (bslot_looks ho2)) (fun e => Nat.lt_irrefl _ (writersOK_ok g3 hi e)) (fun k hk co hco e => by
                 rcases List.mem_append.1 hk with hk | hk
                 ·exact lw p (bslot_looks ho2) k hk co hco e
                 ·have := writersOK_ok g3 hco e; have := hgt k hk; omega)
                have eq : s2.1 q = s3.1 q := afold_other this fun k hk co hco e => by
                 have := writersOK_ok g4 hco e
                 rcases List.mem_append.1 hk with hk | hk
                 ·have := hjl k hk; omega
                 ·have := hgt k hk; omega
                simp only at hd
                rw [ep, eq] at hd
                exact commute_mb g1 ho1 ho2 (by omega) hd hbind
               ·cases hcf
              ·unfold confV at hcf
               split at hcf
               ·rename_i p ho1
                split at hcf
                ·rename_i hh
                 cases hcf
                 simp only [Bool.and_eq_true, beq_iff_eq] at hh
                 obtain ⟨⟨g1, g2⟩, g3⟩ := hh
                 have ep := late p (fun e => Nat.lt_irrefl _ (writersOK_ok g3 hj e)) (fun e => (slotsApart_d g1).2 p e (rslot_looks ho1)) (fun k hk co hco e => by
                  have := writersOK_ok g3 hco e
                  rcases List.mem_append.1 hk with hk | hk
                  ·have := hjl k hk; omega
                  ·have := hgt k hk; omega)
                 simp only at hd
                 rw [ep] at hd
                 exact commute_va g1 ho1 (by omega) (dis_self hd) hbind
                ·cases hcf
               ·split at hcf
                ·rename_i p ho1
                 split at hcf
                 ·rename_i hh
                  cases hcf
                  simp only [Bool.and_eq_true, beq_iff_eq] at hh
                  obtain ⟨⟨g1, g2⟩, g3⟩ := hh
                  have ep := late p (fun e => (slotsApart_d g1).1 p e (rslot_looks ho1)) (fun e => Nat.lt_irrefl _ (writersOK_ok g3 hi e)) (fun k hk co hco e => by
                   rcases List.mem_append.1 hk with hk | hk
                   ·exact lw p (rslot_looks ho1) k hk co hco e
                   ·have := writersOK_ok g3 hco e; have := hgt k hk; omega)
                  simp only at hd
                  rw [ep] at hd
                  exact commute_vb g1 ho1 (by omega) (dis_self hd) hbind
                 ·cases hcf
                ·cases hcf
         cases hb0 : astep sp b st with
         | none => rw [hb0] at hc; simp at hc
         | some s0 =>
           rw [hb0] at hc
           simp only [Option.bind_some] at hc ⊢
           rw [hc]
           exact this


def Fw : Option Nat → Fence
 | none => Fence.wide
 | some l => Fence.wide.inRound l
theorem Fw_fn {ro : Option Nat} {f : FuncId} : (Fw ro).fn f := by cases ro <;> trivial
theorem Fw_depth {ro : Option Nat} : (Fw ro).depth = none := by cases ro <;> rfl
theorem Fw_room {ro : Option Nat} {n : Nat} : (Fw ro).room n := fun d hd => by rw [Fw_depth] at hd; cases hd
theorem Fw_round {ro : Option Nat} : (Fw ro).round = ro := by cases ro <;> rfl
theorem callsIn_Fw {ro : Option Nat} {n : Nat} {P : Program} {f : FuncId} {args : Array Value} {w : World} {R : Ending → World → Prop} (h : Calls P f args w R) : CallsIn (Fw ro) n P f args w R := by
 cases ro with
 | none => exact callsIn_wide.2 h
 | some l => exact (callsIn_wide (n := n)).2 h

def tv (X : Nat → Option Value) (N : Nat) (a : Act) (k : Nat) : Option Value := if k < N then some (a.tmps.getD k undef) else X k
theorem getD_out {t : Array Value} {k : Nat} (h : t.size ≤ k) : t.getD k undef = undef := by
 rw [Array.getD_eq_getD_getElem?, Array.getElem?_eq_none_iff.2 h]; rfl
structure St (B : Base) (N : Nat) (D : List Deferred) (E : Env) (g : Nat → AV) (h : List AO) (a : Act) (w : World) : Prop where
 mem : Mem B E h w
 slots : ∀ k v, tv B.X N a k = some v → rel E (g k) v
 size : a.tmps.size = N
 defers : a.defers = D

section
variable {P : Program} {ti : Nat → TInf} {B : Base} {E : Env} {h : List AO} {w : World} {g : Nat → AV} {a : Act} {o : Oper} {sp : Sp} {N : Nat} {D : List Deferred} {mu pures : List Nat} {ops : Array Oper}

theorem St.of (m : Mem B E h w) (hs : ∀ k, rel E (g k) (a.tmps.getD k undef)) (hz : a.tmps.size = N) (hd : a.defers = D) (hX : B.X = noX) : St B N D E g h a w :=
 ⟨m, fun k v hv => by
   unfold tv at hv
   split at hv
   ·cases hv; exact hs k
   ·rw [hX, noX] at hv; cases hv
    have := hs k
    rw [getD_out (by omega)] at this; exact this, hz, hd⟩
theorem St.all (s : St B N D E g h a w) (hX : B.X = noX) : ∀ k, rel E (g k) (a.tmps.getD k undef) := fun k => by
 by_cases hk : k < N
 ·exact s.slots k _ (by unfold tv; rw [if_pos hk])
 ·rw [getD_out (by rw [s.size]; omega)]
  exact s.slots k _ (by unfold tv; rw [if_neg hk, hX]; rfl)
def Own (B : Base) (N : Nat) (L : List Nat) : Prop := B.X = noX ∨ ∀ n ∈ L, n < N
theorem St.seen (s : St B N D E g h a w) {L : List Nat} (hL : Own B N L) : ∃ g' : Nat → AV, (∀ n ∈ L, g' n = g n) ∧ ∀ k, rel E (g' k) (a.tmps.getD k undef) := by
 rcases hL with hX | hL
 ·exact ⟨g, fun _ _ => rfl, s.all hX⟩
 ·refine ⟨fun k => if k < N then g k else .any, fun n hn => by simp [hL n hn], fun k => ?_⟩
  simp only
  split
  ·rename_i hk; exact s.slots k _ (by unfold tv; rw [if_pos hk])
  ·simp only [rel]

theorem St.put (s : St B N D E g h a w) {E' : Env} {h' : List AO} {w' : World} (le : E.le E') (m : Mem B E' h' w') {d : Option Nat} {A : AV} {v : Value} (hd : ∀ x, d = some x → x < N) (hv : rel E' A v) : St B N D E' (upd g d A) h' (a.put d v) w' := by
 cases d with
 | none => exact ⟨m, fun k v hv => rel.mono le _ _ (s.slots k v hv), s.size, s.defers⟩
 | some d =>
   have hdN := hd d rfl
   have hlt : d < a.tmps.size := by rw [s.size]; exact hdN
   refine ⟨m, fun k u hu => ?_, by simp [Act.put, s.size], s.defers⟩
   simp only [upd]
   unfold tv at hu
   by_cases e : k = d
   ·subst e
    rw [if_pos hdN] at hu
    simp only [Act.put] at hu
    have : (a.tmps.setIfInBounds k v).getD k undef = v := by simp [Array.getD, hlt]
    rw [this] at hu; cases hu
    rw [if_pos rfl]; exact hv
   ·rw [if_neg e]
    refine rel.mono le _ _ (s.slots k u ?_)
    unfold tv
    have : (a.tmps.setIfInBounds d v).getD k undef = a.tmps.getD k undef := by
     simp only [Array.getD_eq_getD_getElem?, Array.getElem?_setIfInBounds_ne (Ne.symm e)]
    simp only [Act.put] at hu
    rw [this] at hu; exact hu

theorem compOps_get {all : Array Oper} {draw : Bool} : ∀ {l : List Oper} {cs : List CO}, compOps ti mu pures draw N all l = some cs → cs.length = l.length ∧
  ∀ (i : Nat) (o : Oper) (co : CO), l[i]? = some o → cs[i]? = some co → co.o = compOp ti mu o ∧ co.d = o.dst ∧ gof all o = some co.g ∧ (∀ d, o.dst = some d → d < N) ∧ (co.c ≠ 2 → co.c = kls pures co.o)
 | [], cs, h => by simp only [compOps, Option.some.injEq] at h; subst h; exact ⟨rfl, fun i o co hi => by simp at hi⟩
 | x :: l, cs, h => by
   simp only [compOps] at h
   split at h
   ·rename_i gg cl h1 h2 h3
    cases h
    obtain ⟨k1, k2⟩ := compOps_get h2
    refine ⟨by simp [k1], fun i o co hi hc => ?_⟩
    cases i with
    | zero =>
      simp at hi hc; subst hi hc
      refine ⟨rfl, rfl, h1, fun d hd => ?_, fun hc => ?_⟩
      ·rw [hd] at h3; simpa using h3
      ·cases draw
       ·exact absurd rfl hc
       ·rfl
    | succ i => exact k2 i o co (by simpa using hi) (by simpa using hc)
   ·cases h

theorem getD_bool {t : Array Value} {d : Nat} {b : Bool} (h : t.getD d undef = .bool b) : t[d]? = some (.bool b) := by
 rw [Array.getD_eq_getD_getElem?] at h
 cases ht : t[d]? with
 | none => rw [ht] at h; simp [undef] at h
 | some v => rw [ht] at h; simp at h; rw [h]
theorem getD_undef {t : Array Value} {d : Nat} (h : t.getD d undef = undef) : ∀ b, t[d]? ≠ some (.bool b) := by
 intro b hb
 rw [Array.getD_eq_getD_getElem?, hb] at h
 simp [undef] at h

theorem wanted_ok (hs : ∀ k, rel E (g k) (a.tmps.getD k undef)) {gg : Option (Nat × Bool)} (hg : gof ops o = some gg) {t : Bool} (ht : gd g gg = some t) : Region.wanted o (yielded ops a.tmps) = t := by
 unfold gof at hg
 unfold Region.wanted
 split at hg
 ·rename_i hgd
  cases hg
  rw [hgd]
  simp only [gd, Option.some.injEq] at ht
  simpa using ht
 ·rename_i j b hgd
  split at hg
  ·rename_i d hd
   cases hg
   rw [hgd]
   simp only [gd] at ht
   have hr := hs d
   simp only [yielded, hd, Option.bind_some]
   split at ht
   ·rename_i p hp
    cases ht
    rw [hp] at hr
    simp only [rel] at hr
    rw [getD_bool hr]
    cases p <;> cases b <;> rfl
   ·rename_i hp
    cases ht
    rw [hp] at hr
    simp only [rel] at hr
    have := getD_undef hr
    split
    ·rename_i b' hb'; exact absurd hb' (this b')
    ·rfl
   ·cases ht
  ·cases hg

variable {F : Fence} {n : Nat} {Q : Exit → Act → World → Prop} {ro : Option Nat}

theorem step_ok (hti : TIok P ti) (hsp : SpOK P sp) (s : St B N D E g h a w) {i : Nat} {co : CO} (hi : ops[i]? = some o) (h1 : co.o = compOp ti mu o) (h2 : co.d = o.dst) (h3 : gof ops o = some co.g) (h4 : ∀ d, o.dst = some d → d < N) (hown : Own B N (COlooks co))
  {g' : Nat → AV} {h' : List AO} (hst : astep sp co (g, h) = some (g', h')) {K : Act → World → Prop} (hK : ∀ E' a' w', St B N D E' g' h' a' w' → K a' w') : wpOpIn (Fw ro) n P ops Q i K a w := by
 unfold wpOpIn
 simp only [hi]
 unfold astep at hst
 simp only at hst
 obtain ⟨gs, hgs, hsl⟩ := s.seen hown
 split at hst
 ·rename_i hgd
  rw [wanted_ok hsl h3 ((gd_congr hgs).trans hgd)]
  simp only [if_true]
  refine ⟨fun f _ => Fw_fn, ?_⟩
  have hev' : ∀ {sp : Sp}, SpOK P sp → _ := fun {sp} hsp => ev_ok (P := P) (B := B) (E := E) (h := h) (w := w) (g := gs) (a := a) (sp := sp) s.mem hti hsp hsl mu o
  have hev : ∃ sp', SpOK P sp' ∧ (∀ C A, evc sp g h co = .v C A → ev sp' gs h co.o = .v C A ∨ ∃ C' h'', ev sp' gs h co.o = .e C' A h'' ∧ (holds C → holds C' ∧ h'' = h)) ∧ (∀ C A h'', evc sp g h co = .e C A h'' → ∃ C', ev sp' gs h co.o = .e C' A h'' ∧ (holds C → holds C')) ∧ (∀ C h'', evc sp g h co = .k C h'' → ev sp' gs h co.o = .k C h'') := by
   rw [← evc_congr (sp := sp) (h := h) hgs]
   unfold evc
   split
   ·exact ⟨sp, hsp, fun C A he => .inl he, fun C A h'' he => ⟨C, he, id⟩, fun C h'' he => he⟩
   ·split
    ·refine ⟨sp0 sp, hsp.zero, fun C A he => .inl ?_, fun C A h'' he => ?_, fun C h'' he => ?_⟩
     ·unfold vOnly at he
      split at he
      ·rename_i hh; rw [hh]; exact he
      ·cases he
     ·unfold vOnly at he; split at he <;> cases he
     ·unfold vOnly at he; split at he <;> cases he
    ·split
     ·refine ⟨sp, hsp, fun C A he => .inl ?_, fun C A h'' he => ?_, fun C h'' he => ?_⟩
      ·unfold keptR at he
       split at he
       ·rename_i hh; rw [hh]; exact he
       ·split at he <;> cases he
       ·cases he
      ·unfold keptR at he
       split at he
       ·cases he
       ·rename_i C' A' h1 hh
        split at he
        ·cases he
         exact ⟨C', hh, fun hc => (holds_both.1 hc).1⟩
        ·cases he
       ·cases he
      ·unfold keptR at he
       split at he
       ·cases he
       ·split at he <;> cases he
       ·cases he
     ·refine ⟨sp, hsp, fun C A he => ?_, fun C A h'' he => ?_, fun C h'' he => ?_⟩
      ·unfold sameR at he
       split at he
       ·rename_i hh; rw [hh]; exact .inl he
       ·rename_i C' A' h1 hh
        cases he
        exact .inr ⟨C', h1, hh, fun hc => holds_both.1 hc⟩
       ·cases he
      ·unfold sameR at he; split at he <;> cases he
      ·unfold sameR at he; split at he <;> cases he
  obtain ⟨sp', hsp', ev1, ev2, ev3⟩ := hev
  have hev := hev' hsp'
  rw [← h1] at hev
  have hnd : ∀ c, o.op ≠ .defer c := fun c hc => by
   have hb : co.o = .bad := by rw [h1]; unfold compOp; simp only [hc]
   have : evc sp g h co = .no := by unfold evc; rw [hb]; (repeat' split) <;> rfl
   rw [this] at hst; cases hst
  rw [Oper.semAt_eq _ _ _ hnd]
  -- what the outcome gives
  have fin : ∀ {R : AV} {h1' : List AO}, Gives P o a w (Post B E h1' R) → g' = upd g co.d R → h' = h1' → o.uponIn (Fw ro) n P a K Q ((execOp a.eval o).run P w) := fun {R h1'} hgv e1 e2 => by
   subst e1 e2
   have fin' : ∀ {v : Value} {w' : World}, Post B E h' R v w' → K (a.put o.dst v) w' := fun {v w'} hp => by
    obtain ⟨E', q1, q2, q3⟩ := hp
    refine hK E' _ _ ?_
    rw [h2]
    exact s.put q1 q2 h4 q3
   rcases hgv with ⟨v, w', k1, k2⟩ | ⟨w', k1, k2⟩ | ⟨f, args, k1, k2⟩
   ·rw [k1, Oper.uponIn_value]; exact fin' k2
   ·rw [k1, Oper.uponIn_skip]; exact fin' k2
   ·rw [k1, Oper.uponIn_enter]
    refine ⟨fun hh => (by rw [Fw_depth] at hh; cases hh), callsIn_Fw (Calls.mono k2 fun e w' he => ?_)⟩
    obtain ⟨v, rfl, hp⟩ := he
    exact fin' hp
  split at hst
  ·rename_i C A he
   split at hst
   ·rename_i hC
    cases hst
    rcases ev1 _ _ he with e | ⟨C', h'', e, hh⟩
    ·rw [e] at hev
     exact fin (hev hC) rfl rfl
    ·rw [e] at hev
     obtain ⟨hC', hhh⟩ := hh hC
     subst hhh
     exact fin (hev hC') rfl rfl
   ·cases hst
  ·rename_i C A h'' he
   split at hst
   ·rename_i hC
    cases hst
    obtain ⟨C', e, hh⟩ := ev2 _ _ _ he
    rw [e] at hev
    exact fin (hev (hh hC)) rfl rfl
   ·cases hst
  ·rename_i C h'' he
   split at hst
   ·rename_i hC
    cases hst
    rw [ev3 _ _ he] at hev
    exact fin (hev hC) rfl rfl
   ·cases hst
  ·cases hst
 ·rename_i hgd
  cases hst
  rw [wanted_ok hsl h3 ((gd_congr hgs).trans hgd)]
  simp only [Bool.false_eq_true, if_false]
  refine ⟨fun f _ => Fw_fn, hK E _ _ ?_⟩
  rw [h2]
  exact s.put (Env.le.refl E) s.mem h4 (by simp only [rel])
 ·cases hst

theorem ops_ok (hti : TIok P ti) (hsp : SpOK P sp) {cs : List CO} {draw : Bool} (hc : compOps ti mu pures draw N ops ops.toList = some cs) (hown : ∀ co ∈ cs, Own B N (COlooks co)) : ∀ (l : List Nat) {E : Env} {g : Nat → AV} {h : List AO} {a : Act} {w : World}, St B N D E g h a w → ∀ {gF : Nat → AV} {hF : List AO},
  afold sp cs l (g, h) = some (gF, hF) → (∀ E' a' w', St B N D E' gF hF a' w' → Q .normal a' w') → wpOpsIn (Fw ro) n P ops Q l a w
 | [], E, g, h, a, w, s, gF, hF, hf, hQ => by
   simp only [afold, Option.some.injEq, Prod.mk.injEq] at hf
   obtain ⟨rfl, rfl⟩ := hf
   exact hQ E a w s
 | i :: l, E, g, h, a, w, s, gF, hF, hf, hQ => by
   rw [wpOpsIn_cons]
   obtain ⟨k1, k2⟩ := compOps_get hc
   simp only [afold] at hf
   cases hi : ops[i]? with
   | none =>
     have : cs[i]? = none := by
      rw [List.getElem?_eq_none_iff, k1, Array.length_toList]
      exact Array.getElem?_eq_none_iff.1 hi
     rw [this] at hf
     unfold wpOpIn
     simp only [hi]
     exact ops_ok hti hsp hc hown l s hf hQ
   | some o =>
     obtain ⟨co, hco⟩ : ∃ co, cs[i]? = some co := by
      have hlt : i < ops.size := (Array.getElem?_eq_some_iff.1 hi).1
      exact ⟨cs[i]'(by rw [k1, Array.length_toList]; exact hlt), by simp⟩
     rw [hco] at hf
     simp only at hf
     obtain ⟨q1, q2, q3, q4, _⟩ := k2 i o co (by simpa using hi) hco
     cases hs : astep sp co (g, h) with
     | none => rw [hs] at hf; cases hf
     | some st =>
       obtain ⟨g1, h1⟩ := st
       rw [hs] at hf
       simp only [Option.bind_some] at hf
       exact step_ok hti hsp s hi q1 q2 q3 q4 (hown co (List.mem_of_getElem? hco)) hs fun E' a' w' s' => ops_ok hti hsp hc hown l s' hf hQ

end
end Go.Abs
