/- Maps as lists, nil, and what the runtime compares. -/
import Derived.Test.YtfaojkajlpojlaaAbsP
import Derived.Lib.Bytealg
namespace Go.Proofs.Ytfaojkajlpojlaa.Abs
open Go Go.RowKit

variable {P : Program} {S : Store} {G : Gh} {w : World} {Q : Exit → List D → Store → Prop} {sl : List D}

/-- What becomes of a map where a key is set. -/
inductive IsSet (k : Value) (d : D) : List (Value × D) → List (Value × D) → Prop
  | nil : IsSet k d [] [(k, d)]
  | hit (d' : D) (r : List (Value × D)) : IsSet k d ((k, d') :: r) ((k, d) :: r)
  | miss {k' : Value} {d' : D} {r r' : List (Value × D)} : k' ≠ k → IsSet k d r r' → IsSet k d ((k', d') :: r) ((k', d') :: r')
theorem findNow_of_set {kv : Value} {d : D} {dsc : TypeDesc} (hk : MapKept.IsKey dsc kv) : ∀ {l l' : List (Value × D)}, IsSet kv d l l' → (∀ x ∈ l, MapKept.IsKey dsc x.1) → ∀ (i j : Nat) (es : List MapEntry), RepE G (mpE i l) es →
    (Instr.findNow dsc kv es j = some none ∧ l' = l ++ [(kv, d)]) ∨ ∃ (n : Nat) (v : Value), Instr.findNow dsc kv es j = some (some (j + n, v)) ∧ n < l.length ∧ l' = l.set n (kv, d) ∧ ∀ e, es[n]? = some e → e.key = kv
  | _, _, .nil, _, i, j, es, he => by
    simp only [mpE, RepE] at he
    subst he
    exact .inl ⟨rfl, rfl⟩
  | _, _, .hit d' r, hl, i, j, es, he => by
    simp only [mpE, RepE] at he
    obtain ⟨x, s, rfl, h1, h2, h3, h4⟩ := he
    simp only [Rep] at h1
    obtain ⟨b, hb, hiff⟩ := MapKept.sameNow_of_keys hk (hl _ (.head _))
    have : b = true := hiff.2 rfl
    subst this
    exact .inr ⟨0, x.val, by simp [Instr.findNow, h1, hb], by simp, rfl, fun e he => by simp at he; rw [← he, h1]⟩
  | _, _, .miss hne hr, hl, i, j, es, he => by
    simp only [mpE, RepE] at he
    obtain ⟨x, s, rfl, h1, h2, h3, h4⟩ := he
    simp only [Rep] at h1
    obtain ⟨b, hb, hiff⟩ := MapKept.sameNow_of_keys hk (hl _ (.head _))
    have : b = false := by cases b with
      | true => exact absurd (hiff.1 rfl).symm hne
      | false => rfl
    subst this
    rcases findNow_of_set hk hr (fun x hx => hl x (.tail _ hx)) (i + 1) (j + 1) s h4 with ⟨g1, g2⟩ | ⟨n, v, g1, g2, g3, g4⟩
    · exact .inl ⟨by simp [Instr.findNow, h1, hb, g1], by rw [g2]; rfl⟩
    · exact .inr ⟨n + 1, v, by simp [Instr.findNow, h1, hb, g1]; omega, by simp; omega, by rw [g3]; rfl, fun e he => g4 e (by simpa using he)⟩
theorem mpE_set {k v : Value} {d : D} (hd : Rep G d v) : ∀ (n i : Nat) (l : List (Value × D)) (es : List MapEntry), n < l.length → RepE G (mpE i l) es → RepE G (mpE i (l.set n (k, d))) (es.modify n fun e => { e with key := k, val := v })
  | n, i, [], es, hn, h => by simp at hn
  | 0, i, x :: r, es, hn, h => by
    simp only [mpE, RepE] at h
    obtain ⟨y, s, rfl, h1, h2, h3, h4⟩ := h
    simp only [List.set_cons_zero, mpE, RepE, List.modify_zero_cons]
    exact ⟨_, _, rfl, by simp [Rep], hd, h3, h4⟩
  | n + 1, i, x :: r, es, hn, h => by
    simp only [mpE, RepE] at h
    obtain ⟨y, s, rfl, h1, h2, h3, h4⟩ := h
    simp only [List.set_cons_succ, mpE, RepE, List.modify_succ_cons]
    exact ⟨_, _, rfl, h1, h2, h3, mpE_set hd n (i + 1) r s (by simpa using hn) h4⟩
/-- A key is set. -/
theorem AOps_set {ops : Array Oper} {i : Nat} {l : List Nat} {o : Oper} {t k kt et : Nat} {m kx x : Operand} {dsc : TypeDesc} {kv : Value} {es es' : List (Value × D)} (ho : ops[i]? = some o) (hw : awanted ops sl o = some true)
    (hop : o.op = .insert t m kx x ∨ o.op = .mapUpdate t m kx x) (ht : P.underlying t = some (.map kt et)) (hkt : P.underlying kt = some dsc) (hm : aval sl m = .mp k) (hk : S.ob k = some (mapO es)) (hkx : aval sl kx = .lit kv) (hkey : MapKept.IsKey dsc kv) (hkeys : ∀ x ∈ es, MapKept.IsKey dsc x.1)
    (hset : IsSet kv (aval sl x) es es') (h : ∀ S', UpdO S S' k (mapO es') → AOps P ops Q l (aput sl o.dst .any) S') : AOps P ops Q (i :: l) sl S := by
  refine AOps_one ho hw fun G w a hs hr hdf => ?_
  have hm' := aval_rep hr m
  rw [hm] at hm'
  simp only [Rep] at hm'
  obtain ⟨b, h1, h2⟩ := hm'
  have hk' := aval_rep hr kx
  rw [hkx] at hk'
  simp only [Rep] at hk'
  obtain ⟨b', g1, g2, g3, g4, g5⟩ := hs.obj k _ hk
  rw [h2] at g1
  cases g1
  obtain ⟨el, g6, g7⟩ := g5
  have hl := mpE_len _ _ _ g7
  have hx := aval_rep hr x
  rcases findNow_of_set (d := aval sl x) hkey hset hkeys 0 0 el g7 with ⟨hr1, rfl⟩ | ⟨n, v, hr1, hn, rfl, hkn⟩
  · refine ⟨.skip, _, G, .any, _, ?_, Ext.refl G, hs.set_any (obj := .map (el.toArray.push { key := kv, val := a.eval x, born := es.length }) (es.length + 1)) (o' := mapO (es ++ [(kv, aval sl x)])) hk h2 ⟨_, g6⟩ ?_, .inl ⟨rfl, rfl⟩, h _ (UpdO.mk' S k _)⟩
    · have : (Instr.mapUpdate t (a.eval m) (a.eval kx) (a.eval x)).run P w = .ok () { w with heap := w.heap.setIfInBounds b (.map (el.toArray.push { key := kv, val := a.eval x, born := es.length }) (es.length + 1)) } := by
        rw [h1, hk']
        simp [Instr.mapUpdate, run_underlying ht, MapKept.run_getObj_map g6, MapKept.run_checkKey hkt hkey, MapKept.run_findKey hkt hr1, MapKept.run_setObj_map _ g6, Result.andThen]
      rcases hop with hop | hop <;> simp only [execOp, hop] <;> exact wrap_u this
    · intro w' hw'
      refine ⟨el ++ [{ key := kv, val := a.eval x, born := es.length }], by simpa using hw', ?_⟩
      have := mpE_snoc (k := kv) hx 0 es el g7
      simpa using this
  · have hel : n < el.length := by omega
    have hkey2 : (el.toArray[n]?.map (·.key)).getD kv = kv := by
      simp only [List.getElem?_toArray, List.getElem?_eq_getElem hel, Option.map_some, Option.getD_some]
      exact hkn _ (List.getElem?_eq_getElem hel)
    refine ⟨.skip, _, G, .any, _, ?_, Ext.refl G, hs.set_any (obj := .map (el.toArray.modify n fun e => { e with key := kv, val := a.eval x }) es.length) (o' := mapO (es.set n (kv, aval sl x))) hk h2 ⟨_, g6⟩ ?_, .inl ⟨rfl, rfl⟩, h _ (UpdO.mk' S k _)⟩
    · have : (Instr.mapUpdate t (a.eval m) (a.eval kx) (a.eval x)).run P w = .ok () { w with heap := w.heap.setIfInBounds b (.map (el.toArray.modify n fun e => { e with key := kv, val := a.eval x }) es.length) } := by
        rw [h1, hk']
        rw [Nat.zero_add] at hr1
        simp only [Instr.mapUpdate, Sem.run_bind, run_underlying ht, Result.andThen_ok, MapKept.run_getObj_map g6, MapKept.run_checkKey hkt hkey, MapKept.run_findKey hkt hr1, hkey2, MapKept.run_keyThatStays hkey, MapKept.run_setObj_map _ g6]
      rcases hop with hop | hop <;> simp only [execOp, hop] <;> exact wrap_u this
    · intro w' hw'
      refine ⟨el.modify n fun e => { e with key := kv, val := a.eval x }, by simpa using hw', ?_⟩
      have := mpE_set (k := kv) hx n 0 es el hn g7
      simpa [List.length_set] using this

def mget {α β : Type} [BEq α] (m : List (α × β)) (k : α) : Option β :=
  match m with
  | [] => none
  | x :: r => if x.1 == k then some x.2 else mget r k
def mset {α β : Type} [BEq α] (m : List (α × β)) (k : α) (v : β) : List (α × β) :=
  match m with
  | [] => [(k, v)]
  | x :: r => if x.1 == k then (k, v) :: r else x :: mset r k v
theorem look_list {α β : Type} [BEq α] [LawfulBEq α] (key : α → Value) (inj : ∀ a b, key a = key b → a = b) (enc : β → D) (k : α) : ∀ m : List (α × β), IsLook (key k) (m.map fun y => (key y.1, enc y.2)) ((mget m k).map enc)
  | [] => .nil
  | x :: r => by
    simp only [List.map_cons, mget]
    split
    · rename_i h
      have : x.1 = k := eq_of_beq h
      rw [this]
      exact .hit _ _
    · rename_i h
      exact .miss (fun e => h (by rw [inj _ _ e]; exact beq_self_eq_true _)) (look_list key inj enc k r)
theorem set_list {α β : Type} [BEq α] [LawfulBEq α] (key : α → Value) (inj : ∀ a b, key a = key b → a = b) (enc : β → D) (k : α) (v : β) : ∀ m : List (α × β), IsSet (key k) (enc v) (m.map fun y => (key y.1, enc y.2)) ((mset m k v).map fun y => (key y.1, enc y.2))
  | [] => .nil
  | x :: r => by
    simp only [List.map_cons, mset]
    split
    · rename_i h
      have : x.1 = k := eq_of_beq h
      rw [this]
      exact .hit _ _
    · rename_i h
      exact .miss (fun e => h (by rw [inj _ _ e]; exact beq_self_eq_true _)) (set_list key inj enc k v r)
theorem str_inj (a b : List UInt8) (h : Value.string ⟨a.toArray⟩ = Value.string ⟨b.toArray⟩) : a = b := by
  have h1 : (⟨a.toArray⟩ : ByteArray) = ⟨b.toArray⟩ := by injection h
  have h2 : a.toArray = b.toArray := by injection h1
  have := congrArg Array.toList h2
  simpa using this
end Go.Proofs.Ytfaojkajlpojlaa.Abs
