/- Maps, and variables in memory that are written once. -/
import Derived.Test.YtfaojkajlpojlaaAbsL
import Derived.MapKept
namespace Go.Proofs.Ytfaojkajlpojlaa.Abs
open Go Go.RowKit

variable {P : Program} {S : Store} {G : Gh} {w : World} {Q : Exit → List D → Store → Prop} {sl : List D}

def mpE : Nat → List (Value × D) → List (D × D × Nat)
  | _, [] => []
  | i, x :: r => (.lit x.1, x.2, i) :: mpE (i + 1) r
def mapO (l : List (Value × D)) : Ob := .map (mpE 0 l) l.length

/-- What a key finds. -/
inductive IsLook (k : Value) : List (Value × D) → Option D → Prop
  | nil : IsLook k [] none
  | hit (d : D) (r : List (Value × D)) : IsLook k ((k, d) :: r) (some d)
  | miss {k' : Value} {d : D} {r : List (Value × D)} {o : Option D} : k' ≠ k → IsLook k r o → IsLook k ((k', d) :: r) o
theorem int_ne {k : IntKind} {n c : Int} (h : n ≠ c) : Value.int k c ≠ Value.int k n := fun e => by cases e; exact h rfl

theorem findNow_of_look {kv : Value} {dsc : TypeDesc} (hk : MapKept.IsKey dsc kv) : ∀ {l : List (Value × D)} {o : Option D}, IsLook kv l o → (∀ x ∈ l, MapKept.IsKey dsc x.1) → ∀ (i j : Nat) (es : List MapEntry), RepE G (mpE i l) es →
    ∃ r, Instr.findNow dsc kv es j = some r ∧ (o = none → r = none) ∧ ∀ d, o = some d → ∃ n v, r = some (n, v) ∧ Rep G d v
  | _, _, .nil, _, i, j, es, he => by
    simp only [mpE, RepE] at he
    subst he
    exact ⟨none, rfl, fun _ => rfl, fun d h => by cases h⟩
  | _, _, .hit d r, hl, i, j, es, he => by
    simp only [mpE, RepE] at he
    obtain ⟨x, s, rfl, h1, h2, h3, h4⟩ := he
    simp only [Rep] at h1
    obtain ⟨b, hb, hiff⟩ := MapKept.sameNow_of_keys hk (hl _ (.head _))
    have : b = true := hiff.2 rfl
    subst this
    exact ⟨some (j, x.val), by simp [Instr.findNow, h1, hb], fun h => (by cases h), fun d' h => (by cases h; exact ⟨_, _, rfl, h2⟩)⟩
  | _, _, .miss hne hr, hl, i, j, es, he => by
    simp only [mpE, RepE] at he
    obtain ⟨x, s, rfl, h1, h2, h3, h4⟩ := he
    simp only [Rep] at h1
    obtain ⟨b, hb, hiff⟩ := MapKept.sameNow_of_keys hk (hl _ (.head _))
    have : b = false := by cases b with
      | true => exact absurd (hiff.1 rfl).symm hne
      | false => rfl
    subst this
    obtain ⟨r', g1, g2⟩ := findNow_of_look hk hr (fun x hx => hl x (.tail _ hx)) (i + 1) (j + 1) s h4
    exact ⟨r', by simp [Instr.findNow, h1, hb, g1], g2⟩
theorem mpE_len : ∀ (i : Nat) (l : List (Value × D)) (es : List MapEntry), RepE G (mpE i l) es → es.length = l.length
  | i, [], es, h => by simp only [mpE, RepE] at h; subst h; rfl
  | i, x :: r, es, h => by
    simp only [mpE, RepE] at h
    obtain ⟨y, s, rfl, _, _, _, h4⟩ := h
    simp [mpE_len (i + 1) r s h4]
theorem mpE_snoc {k v : Value} {d : D} (hd : Rep G d v) : ∀ (i : Nat) (l : List (Value × D)) (es : List MapEntry), RepE G (mpE i l) es → RepE G (mpE i (l ++ [(k, d)])) (es ++ [{ key := k, val := v, born := i + l.length }])
  | i, [], es, h => by
    simp only [mpE, RepE] at h
    subst h
    simp only [List.nil_append, mpE, RepE]
    exact ⟨_, _, rfl, by simp [Rep], hd, by simp, rfl⟩
  | i, x :: r, es, h => by
    simp only [mpE, RepE] at h
    obtain ⟨y, s, rfl, h1, h2, h3, h4⟩ := h
    simp only [List.cons_append, mpE, RepE]
    refine ⟨_, _, rfl, h1, h2, h3, ?_⟩
    have := mpE_snoc (k := k) hd (i + 1) r s h4
    rw [show i + (x :: r).length = i + 1 + r.length by simp; omega]
    exact this

theorem Sim.alloc_any (h : Sim S G w) (o : Ob) (obj : Obj) (hobj : ∀ (G' : Gh) (w' : World), Ext G G' → w'.heap[w.heap.size]? = some obj → ObRep G' w' w.heap.size o) :
    ∃ G', Ext G G' ∧ Sim (S.setOb G.nx (some o)) G' (w.alloc obj) ∧ S.ob G.nx = none ∧ G'.bl G.nx = some w.heap.size := by
  obtain ⟨f1, f2, f3, f4⟩ := h.fresh G.nx (Nat.le_refl _)
  have he : Ext G { G with bl := fun k => if k = G.nx then some w.heap.size else G.bl k, own := fun b => if b = w.heap.size then some (.inl G.nx) else G.own b, nx := G.nx + 1 } :=
    ⟨rfl, fun _ _ _ x => x, fun k b x => by
      simp only
      split
      · rename_i hk; subst hk; rw [f1] at x; cases x
      · exact x, fun _ _ _ x => x, by simp⟩
  refine ⟨_, he, ⟨h.below.alloc h.size_ge _, ?_, ?_, ?_, ?_, ?_⟩, f2, by simp⟩
  · intro b o v x
    have hb : b ≠ w.heap.size := fun hb => by subst hb; rw [h.im_new (Nat.le_refl _)] at x; cases x
    rw [World.cell?_alloc_old _ _ _ hb]
    exact h.im b o v x
  · intro k o x
    simp only [Store.ob_setOb] at x
    split at x
    · rename_i hk
      subst hk
      cases x
      exact ⟨w.heap.size, by simp, by simp, h.size_ge, fun i => h.im_new (Nat.le_refl _), hobj _ _ he (heap_alloc_at w _)⟩
    · rename_i hk
      obtain ⟨b, h1, h2, h3, h4, h5⟩ := h.obj k o x
      have hlt := h5.lt
      refine ⟨b, by simp [hk, h1], ?_, h3, h4, h5.kept he (heap_alloc_lt w _ hlt)⟩
      simp only
      rw [if_neg (by omega)]
      exact h2
  · intro t n sz x
    obtain ⟨A, c, h1, h2, h3, h4⟩ := h.tok t n sz x
    refine ⟨A, c, h1, h2, fun hn => ?_, h4⟩
    obtain ⟨a, h5, h6, h7, h8, ⟨cs, E, fr, h9, h10, h11⟩, h12⟩ := h3 hn
    have hlt := heap_lt_of_some h9
    refine ⟨a, h5, h6, ?_, h8, ⟨cs, E, fr, by rw [heap_alloc_lt w _ hlt]; exact h9, h10, h11⟩, h12⟩
    simp only
    rw [if_neg (by omega)]
    exact h7
  · intro k hk
    simp only at hk
    obtain ⟨g1, g2, g3, g4⟩ := h.fresh k (by omega)
    refine ⟨?_, ?_, g3, g4⟩
    · simp only; rw [if_neg (by omega)]; exact g1
    · simp only [Store.ob_setOb]; rw [if_neg (by omega)]; exact g2
  · intro b hb
    simp at hb
    simp only
    rw [if_neg (by omega)]
    exact h.owned b (by omega)

/-- Another object in the place of one. -/
theorem Sim.set_any (h : Sim S G w) {k b : Nat} {o o' : Ob} {obj : Obj} (hk : S.ob k = some o) (hb : G.bl k = some b) (hold : ∃ x, w.heap[b]? = some x) (hobj : ∀ w' : World, w'.heap[b]? = some obj → ObRep G w' b o') :
    Sim (S.setOb k (some o')) G { w with heap := w.heap.setIfInBounds b obj } := by
  obtain ⟨b', g1, g2, g3, g4, g5⟩ := h.obj k _ hk
  rw [hb] at g1
  cases g1
  obtain ⟨x0, hx0⟩ := hold
  have hset := MapKept.heap_set (o' := obj) hx0
  refine ⟨⟨h.below.os, h.below.tape, h.below.output, by simpa using h.below.size, fun j hj => ?_⟩, ?_, ?_, ?_, ?_, ?_⟩
  · rw [hset.2 j (by omega)]; exact h.below.block j hj
  · intro c i v x
    have hne : c ≠ b := fun e => by subst e; rw [g4 i] at x; cases x
    have := h.im c i v x
    simp only [World.cell?] at this ⊢
    rw [hset.2 c hne]
    exact this
  · intro k' o'' x
    simp only [Store.ob_setOb] at x
    split at x
    · rename_i e
      subst e
      cases x
      exact ⟨b, hb, g2, g3, g4, hobj _ hset.1⟩
    · rename_i e
      obtain ⟨c, i1, i2, i3, i4, i5⟩ := h.obj k' o'' x
      have hne : c ≠ b := fun e' => by subst e'; rw [g2] at i2; cases i2; exact e rfl
      exact ⟨c, i1, i2, i3, i4, i5.kept (Ext.refl G) (hset.2 c hne)⟩
  · intro t n sz x
    obtain ⟨A, c, i1, i2, i3, i4⟩ := h.tok t n sz x
    refine ⟨A, c, i1, i2, fun hn => ?_, i4⟩
    obtain ⟨a, h5, h6, h7, h8, ⟨cs', E, fr, h9, h10, h11⟩, h12⟩ := i3 hn
    have hne : a.block ≠ b := fun e => by rw [e] at h7; rw [g2] at h7; cases h7
    exact ⟨a, h5, h6, h7, h8, ⟨cs', E, fr, by rw [hset.2 _ hne]; exact h9, h10, h11⟩, h12⟩
  · intro k' hk'
    obtain ⟨f1, f2, f3, f4⟩ := h.fresh k' hk'
    have hne : k' ≠ k := fun e => by subst e; rw [f2] at hk; cases hk
    exact ⟨f1, by simp [hne, f2], f3, f4⟩
  · intro c hc
    simp at hc
    exact h.owned c hc

theorem AOps_makeMap {ops : Array Oper} {i : Nat} {l : List Nat} {o : Oper} {t : Nat} (ho : ops[i]? = some o) (hw : awanted ops sl o = some true) (hop : o.op = .makeMap t none)
    (h : ∀ k, S.ob k = none → AOps P ops Q l (aput sl o.dst (.mp k)) (S.setOb k (some (mapO [])))) : AOps P ops Q (i :: l) sl S := by
  refine AOps_one ho hw fun G w a hs hr hdf => ?_
  obtain ⟨G', e1, s1, k1, k2⟩ := hs.alloc_any (mapO []) (.map #[] 0) (fun G' w' _ hh => ⟨[], by simpa [mapO] using hh, by simp [mpE, RepE]⟩)
  refine ⟨.value (.map (some w.heap.size)), _, G', .mp G.nx, _, by simp only [execOp, hop]; exact wrap_v' (by simp [Instr.makeMap]), e1, s1, .inr ⟨_, rfl, ?_⟩, h _ k1⟩
  simp only [Rep]
  exact ⟨_, rfl, k2⟩

/-- A new key. -/
theorem AOps_insert {ops : Array Oper} {i : Nat} {l : List Nat} {o : Oper} {t k kt et : Nat} {m kx x : Operand} {dsc : TypeDesc} {kv : Value} {es : List (Value × D)} (ho : ops[i]? = some o) (hw : awanted ops sl o = some true)
    (hop : o.op = .insert t m kx x ∨ o.op = .mapUpdate t m kx x) (ht : P.underlying t = some (.map kt et)) (hkt : P.underlying kt = some dsc) (hm : aval sl m = .mp k) (hk : S.ob k = some (mapO es)) (hkx : aval sl kx = .lit kv) (hkey : MapKept.IsKey dsc kv) (hkeys : ∀ x ∈ es, MapKept.IsKey dsc x.1)
    (hnew : IsLook kv es none) (h : AOps P ops Q l (aput sl o.dst .any) (S.setOb k (some (mapO (es ++ [(kv, aval sl x)]))))) : AOps P ops Q (i :: l) sl S := by
  refine AOps_one ho hw fun G w a hs hr hdf => ?_
  have hm' := aval_rep hr m
  rw [hm] at hm'
  simp only [Rep] at hm'
  obtain ⟨b, h1, h2⟩ := hm'
  have hk' := aval_rep hr kx
  rw [hkx] at hk'
  simp only [Rep] at hk'
  obtain ⟨b', g1, g2, g3, g4, g5⟩ := hs.obj k _ hk
  rw [h2] at g1
  cases g1
  obtain ⟨el, g6, g7⟩ := g5
  obtain ⟨r, hr1, hr2, _⟩ := findNow_of_look hkey hnew hkeys 0 0 el g7
  obtain rfl := hr2 rfl
  have hl := mpE_len _ _ _ g7
  refine ⟨.skip, _, G, .any, _, ?_, Ext.refl G, hs.set_any (obj := .map (el.toArray.push { key := kv, val := a.eval x, born := es.length }) (es.length + 1)) (o' := mapO (es ++ [(kv, aval sl x)])) hk h2 ⟨_, g6⟩ ?_, .inl ⟨rfl, rfl⟩, h⟩
  · have : (Instr.mapUpdate t (a.eval m) (a.eval kx) (a.eval x)).run P w = .ok () { w with heap := w.heap.setIfInBounds b (.map (el.toArray.push { key := kv, val := a.eval x, born := es.length }) (es.length + 1)) } := by
      rw [h1, hk']
      simp [Instr.mapUpdate, run_underlying ht, MapKept.run_getObj_map g6, MapKept.run_checkKey hkt hkey, MapKept.run_findKey hkt hr1, MapKept.run_setObj_map _ g6, Result.andThen]
    rcases hop with hop | hop <;> simp only [execOp, hop] <;> exact wrap_u this
  · intro w' hw'
    refine ⟨el ++ [{ key := kv, val := a.eval x, born := es.length }], by simpa using hw', ?_⟩
    have := mpE_snoc (k := kv) (aval_rep hr x) 0 es el g7
    simpa using this

/-- A zero value as data. -/
def zeroV (P : Program) (t : TypeId) : Option D :=
  match (P.info? t).bind (·.zero) with
  | some (.agg cs) => if cs.all (·.oneCell') then some (.ag (cs.toList.map .lit)) else none
  | some z => some (.lit z)
  | none => none
theorem zeroV_sound {t : TypeId} {d : D} (h : zeroV P t = some d) : ∃ z, (∀ w : World, (zeroValue t).run P w = .ok z w) ∧ ∀ G, Rep G d z := by
  have key : ∀ z, (P.info? t).bind (·.zero) = some z → ∀ w : World, (zeroValue t).run P w = .ok z w := by
    intro z hz w
    cases hi : P.info? t with
    | none => simp [hi] at hz
    | some i => simp [hi] at hz; simp [zeroValue, typeInfo, hi, hz]
  unfold zeroV at h
  split at h
  · rename_i cs hz
    split at h
    · rename_i h1
      simp only [Option.some.injEq] at h
      subst h
      refine ⟨_, key _ hz, fun G => ?_⟩
      simp only [Rep]
      exact ⟨cs.toList, rfl, lits_rep _, fun v hv => Array.all_eq_true'.1 h1 v (by simpa using hv)⟩
    · cases h
  · rename_i z _ hz
    simp only [Option.some.injEq] at h
    subst h
    exact ⟨_, key _ hz, fun G => by simp [Rep]⟩
  · cases h

theorem AOps_lookup {ops : Array Oper} {i : Nat} {l : List Nat} {o : Oper} {t k kt et : Nat} {m kx : Operand} {ok : Bool} {dsc : TypeDesc} {kv : Value} {es : List (Value × D)} {res : Option D} {zd : D} (ho : ops[i]? = some o) (hw : awanted ops sl o = some true)
    (hop : o.op = .lookup t m kx ok) (ht : P.underlying t = some (.map kt et)) (hkt : P.underlying kt = some dsc) (hm : aval sl m = .mp k) (hk : S.ob k = some (mapO es)) (hkx : aval sl kx = .lit kv) (hkey : MapKept.IsKey dsc kv) (hkeys : ∀ x ∈ es, MapKept.IsKey dsc x.1)
    (hlook : IsLook kv es res) (hz : zeroV P et = some zd) (h : AOps P ops Q l (aput sl o.dst (if ok then .tup [res.getD zd, bo res.isSome] else res.getD zd)) S) : AOps P ops Q (i :: l) sl S := by
  refine AOps_one ho hw fun G w a hs hr hdf => ?_
  have hm' := aval_rep hr m
  rw [hm] at hm'
  simp only [Rep] at hm'
  obtain ⟨b, h1, h2⟩ := hm'
  have hk' := aval_rep hr kx
  rw [hkx] at hk'
  simp only [Rep] at hk'
  obtain ⟨b', g1, g2, g3, g4, g5⟩ := hs.obj k _ hk
  rw [h2] at g1
  cases g1
  obtain ⟨el, g6, g7⟩ := g5
  obtain ⟨r, hr1, hr2, hr3⟩ := findNow_of_look hkey hlook hkeys 0 0 el g7
  obtain ⟨z, hz1, hz2⟩ := zeroV_sound hz
  have key : ∃ v, (Instr.lookup t (a.eval m) (a.eval kx) ok).run P w = .ok v w ∧ Rep G (if ok then .tup [res.getD zd, bo res.isSome] else res.getD zd) v := by
    rw [h1, hk']
    cases res with
    | none =>
      obtain rfl := hr2 rfl
      refine ⟨if ok then .tuple #[z, .bool false] else z, ?_, ?_⟩
      · simp [Instr.lookup, run_underlying ht, MapKept.run_getObj_map g6, MapKept.run_checkKey hkt hkey, MapKept.run_findKey hkt hr1, hz1, Result.andThen]
      · cases ok
        · simpa using hz2 G
        · simp only [if_true, Rep, Option.getD_none, Option.isSome_none]
          exact ⟨[z, .bool false], rfl, repL_cons (hz2 G) (repL_cons rep_lit repL_nil)⟩
    | some d =>
      obtain ⟨n, v, rfl, hv⟩ := hr3 d rfl
      refine ⟨if ok then .tuple #[v, .bool true] else v, ?_, ?_⟩
      · simp [Instr.lookup, run_underlying ht, MapKept.run_getObj_map g6, MapKept.run_checkKey hkt hkey, MapKept.run_findKey hkt hr1, Result.andThen]
      · cases ok
        · simpa using hv
        · simp only [if_true, Rep, Option.getD_some, Option.isSome_some]
          exact ⟨[v, .bool true], rfl, repL_cons hv (repL_cons rep_lit repL_nil)⟩
  obtain ⟨v, hv1, hv2⟩ := key
  exact ⟨_, w, G, _, S, by simp only [execOp, hop]; exact wrap_v hv1, Ext.refl G, hs, .inr ⟨v, rfl, hv2⟩, h⟩

theorem AOps_lookupNil {ops : Array Oper} {i : Nat} {l : List Nat} {o : Oper} {t kt et : Nat} {m kx : Operand} {ok : Bool} {dsc : TypeDesc} {kv : Value} {zd : D} (ho : ops[i]? = some o) (hw : awanted ops sl o = some true)
    (hop : o.op = .lookup t m kx ok) (ht : P.underlying t = some (.map kt et)) (hkt : P.underlying kt = some dsc) (hm : aval sl m = .lit (.map none)) (hkx : aval sl kx = .lit kv) (hkey : MapKept.IsKey dsc kv)
    (hz : zeroV P et = some zd) (h : AOps P ops Q l (aput sl o.dst (if ok then .tup [zd, bo false] else zd)) S) : AOps P ops Q (i :: l) sl S := by
  refine AOps_one ho hw fun G w a hs hr hdf => ?_
  have hm' := aval_rep hr m
  rw [hm] at hm'
  simp only [Rep] at hm'
  have hk' := aval_rep hr kx
  rw [hkx] at hk'
  simp only [Rep] at hk'
  obtain ⟨z, hz1, hz2⟩ := zeroV_sound hz
  refine ⟨_, w, G, _, S, by
    simp only [execOp, hop]
    rw [hm', hk']
    exact wrap_v (r := if ok then .tuple #[z, .bool false] else z) (by simp [Instr.lookup, run_underlying ht, MapKept.run_checkKey hkt hkey, MapKept.run_findKey (l := []) (a := none) hkt rfl, hz1, Result.andThen]), Ext.refl G, hs, .inr ⟨_, rfl, ?_⟩, h⟩
  cases ok
  · simpa using hz2 G
  · simp only [if_true, Rep]
    exact ⟨[z, .bool false], rfl, repL_cons (hz2 G) (repL_cons rep_lit repL_nil)⟩
theorem beq_ne {n c : Int} (h : (n == c) = false) : n ≠ c := fun e => by rw [e] at h; simp at h

theorem FrzL_set {k : Nat} {cs : List D} (o : Nat) : ∀ (l : List D) (d : Nat), FrzL k cs (l.set d (.ob k o)) (l.set d (.pt (cs.drop o)))
  | [], d => .nil
  | x :: l, 0 => .cons (.ob o) (FrzL.refl l)
  | x :: l, d + 1 => .cons (.refl x) (FrzL_set o l d)
theorem setOb_back {S : Store} {k : Nat} (h : S.ob k = none) (a b : Option Ob) : ((S.setOb k a).setOb k b).setOb k none = S := by
  have : (fun j => if j = k then none else if j = k then b else if j = k then a else S.ob j) = S.ob := by
    funext j
    by_cases e : j = k
    · subst e; simp [h]
    · simp [e]
  cases S
  simp only [Store.setOb] at *
  congr
/-- A variable in memory that is made and written once. -/
theorem AOps_newvar {ops : Array Oper} {i j d : Nat} {l : List Nat} {o o2 : Oper} {t t2 : Nat} {y : Operand} {zs ds : List D} (ho : ops[i]? = some o) (hw : awanted ops sl o = some true) (hop : o.op = .alloc t) (hd : o.dst = some d) (hz : zeroD P t = some zs)
    (hlt : (sl[d]?).isSome = true) (ho2 : ops[j]? = some o2) (hw2 : ∀ k, awanted ops (sl.set d (.ob k 0)) o2 = some true) (hop2 : o2.op = .store t2 (.tmp d) y) (hd2 : o2.dst = none) (hy : ∀ k, aval (sl.set d (.ob k 0)) y = aval sl y) (hds : cellsD (aval sl y) = some ds) (hn : cellsN P t2 = some ds.length) (hl : ds.length = zs.length)
    (h : AOps P ops Q l (sl.set d (.pt ds)) S) : AOps P ops Q (i :: j :: l) sl S := by
  refine AOps_alloc ho hw hop hz fun k hk => ?_
  have e1 : aput sl o.dst (.ob k 0) = sl.set d (.ob k 0) := by rw [hd]; rfl
  rw [e1]
  have hat : aval (sl.set d (.ob k 0)) (.tmp d) = .ob k 0 := by
    have : d < sl.length := by
      rcases Nat.lt_or_ge d sl.length with h | h
      · exact h
      · rw [List.getElem?_eq_none h] at hlt; cases hlt
    simp [aval, List.getD, this]
  refine AOps_put ho2 (hw2 k) hop2 hat (cs := zs) (T := t) (by simp) (by rw [hy]; exact hds) hn (by omega) ?_
  have e2 : aput (sl.set d (.ob k 0)) o2.dst .any = sl.set d (.ob k 0) := by rw [hd2]; rfl
  rw [e2]
  have e3 : List.take 0 zs ++ ds ++ List.drop (0 + ds.length) zs = ds := by simp [hl]
  rw [e3]
  refine AOps_freeze (k := k) (T := t) (cs := ds) (by simp) (FrzL_set 0 sl d) ?_
  rw [setOb_back hk]
  exact h

/-- One object has turned. -/
structure UpdO (S S' : Store) (k : Nat) (o : Ob) : Prop where
  at_ : S'.ob k = some o
  ne : ∀ j, j ≠ k → S'.ob j = S.ob j
  tk : ∀ j, S'.tk j = S.tk j
theorem UpdO.mk' (S : Store) (k : Nat) (o : Ob) : UpdO S (S.setOb k (some o)) k o := ⟨by simp, fun j h => by simp [h], fun j => rfl⟩
theorem UpdO.le {S0 S S' : Store} {k : Nat} {o : Ob} (u : UpdO S S' k o) (h : S.le S0) (hf : S0.ob k = none) : S'.le S0 where
  ob := fun j o y => by rw [u.ne j (fun e => by subst e; rw [hf] at y; cases y)]; exact h.ob j o y
  tk := fun j o y => by rw [u.tk]; exact h.tk j o y
theorem UpdO.ob {S S' : Store} {k k2 : Nat} {o y : Ob} (u : UpdO S S' k o) (h : S.ob k2 = some y) (hne : k2 ≠ k) : S'.ob k2 = some y := by rw [u.ne k2 hne]; exact h
theorem UpdO.tkk {S S' : Store} {k t : Nat} {o : Ob} {y : Nat × Nat} (u : UpdO S S' k o) (h : S.tk t = some y) : S'.tk t = some y := by rw [u.tk]; exact h
theorem Upd.obb {S S' : Store} {t k : Nat} {x : Nat × Nat} {y : Ob} (u : Upd S S' t x) (h : S.ob k = some y) : S'.ob k = some y := by rw [u.ob]; exact h
theorem fresh_leO {S S0 : Store} {k : Nat} (h : S.le S0) (ht : S.ob k = none) : S0.ob k = none := by
  cases hx : S0.ob k with
  | none => rfl
  | some x => have := h.ob _ _ hx; rw [ht] at this; cases this
theorem ne_of_freshO {S : Store} {k k2 : Nat} {y : Ob} (h : S.ob k2 = some y) (ht : S.ob k = none) : k2 ≠ k := fun e => by subst e; rw [h] at ht; cases ht
theorem AOps_makeMapU {ops : Array Oper} {i : Nat} {l : List Nat} {o : Oper} {t : Nat} (ho : ops[i]? = some o) (hw : awanted ops sl o = some true) (hop : o.op = .makeMap t none)
    (h : ∀ S' k, S.ob k = none → UpdO S S' k (mapO []) → AOps P ops Q l (aput sl o.dst (.mp k)) S') : AOps P ops Q (i :: l) sl S :=
  AOps_makeMap ho hw hop fun k hk => h _ k hk (UpdO.mk' S k _)
theorem AOps_insertU {ops : Array Oper} {i : Nat} {l : List Nat} {o : Oper} {t k kt et : Nat} {m kx x : Operand} {dsc : TypeDesc} {kv : Value} {es : List (Value × D)} (ho : ops[i]? = some o) (hw : awanted ops sl o = some true)
    (hop : o.op = .insert t m kx x ∨ o.op = .mapUpdate t m kx x) (ht : P.underlying t = some (.map kt et)) (hkt : P.underlying kt = some dsc) (hm : aval sl m = .mp k) (hk : S.ob k = some (mapO es)) (hkx : aval sl kx = .lit kv) (hkey : MapKept.IsKey dsc kv) (hkeys : ∀ x ∈ es, MapKept.IsKey dsc x.1)
    (hnew : IsLook kv es none) (h : ∀ S', UpdO S S' k (mapO (es ++ [(kv, aval sl x)])) → AOps P ops Q l (aput sl o.dst .any) S') : AOps P ops Q (i :: l) sl S :=
  AOps_insert ho hw hop ht hkt hm hk hkx hkey hkeys hnew (h _ (UpdO.mk' S k _))
theorem AOps_allocU {ops : Array Oper} {i : Nat} {l : List Nat} {o : Oper} {t : Nat} {ds : List D} (ho : ops[i]? = some o) (hw : awanted ops sl o = some true) (hop : o.op = .alloc t)
    (hz : zeroD P t = some ds) (h : ∀ S' k, S.ob k = none → UpdO S S' k (.cells t ds) → AOps P ops Q l (aput sl o.dst (.ob k 0)) S') : AOps P ops Q (i :: l) sl S :=
  AOps_alloc ho hw hop hz fun k hk => h _ k hk (UpdO.mk' S k _)
theorem AOps_boxU {ops : Array Oper} {i : Nat} {l : List Nat} {o : Oper} {t : Nat} {x : Operand} {ds : List D} (ho : ops[i]? = some o) (hw : awanted ops sl o = some true) (hop : o.op = .box t x)
    (hx : cellsD (aval sl x) = some ds) (h : ∀ S' k, S.ob k = none → UpdO S S' k (.cells t ds) → AOps P ops Q l (aput sl o.dst (.ob k 0)) S') : AOps P ops Q (i :: l) sl S :=
  AOps_box_ob ho hw hop hx fun k hk => h _ k hk (UpdO.mk' S k _)
theorem AOps_putU {ops : Array Oper} {i : Nat} {l : List Nat} {o : Oper} {t k T off : Nat} {x y : Operand} {cs ds cs' : List D} (ho : ops[i]? = some o) (hw : awanted ops sl o = some true) (hop : o.op = .store t x y)
    (hx : aval sl x = .ob k off) (hk : S.ob k = some (.cells T cs)) (hy : cellsD (aval sl y) = some ds) (hn : cellsN P t = some ds.length) (hle : off + ds.length ≤ cs.length) (hc : cs.take off ++ ds ++ cs.drop (off + ds.length) = cs')
    (h : ∀ S', UpdO S S' k (.cells T cs') → AOps P ops Q l (aput sl o.dst .any) S') : AOps P ops Q (i :: l) sl S :=
  AOps_put ho hw hop hx hk hy hn hle (by rw [hc]; exact h _ (UpdO.mk' S k _))
/-- A call whose body is walked where it is called. -/
theorem AOps_inline {ops : Array Oper} {i : Nat} {l : List Nat} {o : Oper} {c : Call} {f : FuncId} {first captured : List D} {fo : Operand} {b : Code} (args : List D) (ho : ops[i]? = some o) (hop : o.op = .call c) (hcal : c.callee = .value fo)
    (hf : aval sl fo = .fn (.func f) first captured) (hw : awanted ops sl o = some true) {fn : Func} (hfn : P.funcs[f]? = some fn) (hname : fn.name ≠ "runtime.NumGoroutine") (hbody : fn.body = some b)
    (ha : first ++ c.args.toList.map (aval sl) ++ captured = args)
    (h : AT P b (retQ P fn (fun r S' => AOps P ops Q l (aput sl o.dst r) S')) (args ++ List.replicate (fn.ntmps - args.length) .any) S) : AOps P ops Q (i :: l) sl S :=
  AOps_callR _ args ho hop hcal hf hw hfn hname (by rw [hbody]; rfl) (ha ▸ LeL.refl _) (acalls_of hfn hbody h) fun _ _ x => x
theorem AT_condK {c : Operand} {x y : Code} {t : Bool} (hc : aval sl c = .lit (.bool t)) (ht : t = true) (h1 : AT P x Q sl S) : AT P (.cond c x y) Q sl S := AT_condS t hc (fun _ => h1) (fun e => by rw [ht] at e; cases e)
theorem AT_condN {c : Operand} {x y : Code} {t : Bool} (hc : aval sl c = .lit (.bool t)) (ht : t = false) (h1 : AT P y Q sl S) : AT P (.cond c x y) Q sl S := AT_condS t hc (fun e => by rw [ht] at e; cases e) (fun _ => h1)
end Go.Proofs.Ytfaojkajlpojlaa.Abs
