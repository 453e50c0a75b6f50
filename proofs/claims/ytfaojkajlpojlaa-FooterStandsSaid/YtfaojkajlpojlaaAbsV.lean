/- More rules: rights to append within objects, texts and bytes, arrays. -/
import Derived.Test.YtfaojkajlpojlaaAbsU
import Derived.Laws.IdiomStrings
import Derived.Laws.BytesArg
namespace Go.Proofs.Ytfaojkajlpojlaa.Abs
open Go Go.RowKit

variable {P : Program} {Q : Exit → List D → Store → Prop} {sl : List D} {S S' S0 : Store} {G : Gh} {w : World} {B : List (Bool × Nat)} {L : List It}

theorem Own.tkN' {t n' sz : Nat} (h : Own S0 B S L) (hf : S.tk t = none) (u : Upd S S' t (n', sz)) {n : Nat} (hn : n' = n) : Own S0 B S' (L ++ [.t t n sz]) := hn ▸ h.tkN hf u
theorem item_of {i : Nat} {b : Bool} {t : Nat} (hi : (L[i]?).map It.id = some (b, t)) : ∃ x, L[i]? = some x ∧ x.id = (b, t) := by
  cases hx : L[i]? with
  | none => simp [hx] at hi
  | some x => simp [hx] at hi; exact ⟨x, rfl, hi⟩
theorem Own.tkS' {t n' sz : Nat} (h : Own S0 B S L) (i : Nat) (hi : (L[i]?).map It.id = some (false, t)) (u : Upd S S' t (n', sz)) {n : Nat} (hn : n' = n) : Own S0 B S' (L.set i (.t t n sz)) := by
  subst hn
  obtain ⟨x, hx, e⟩ := item_of hi
  exact h.moveS hx e (fun k _ => u.ob k) (fun k hk => u.ne k (fun e => hk (by rw [e]; rfl))) (by simp only [It.on]; exact u.at_)
theorem Own.obS' {k : Nat} {x : Ob} (h : Own S0 B S L) (i : Nat) (hi : (L[i]?).map It.id = some (true, k)) (u : UpdO S S' k x) : Own S0 B S' (L.set i (.o k x)) := by
  obtain ⟨y, hx, e⟩ := item_of hi
  exact h.moveS hx e (fun j hj => u.ne j (fun e => hj (by rw [e]; rfl))) (fun j _ => u.tk j) (by simp only [It.on]; exact u.at_)
theorem pick_range : ∀ L : List It, pickI L (List.range L.length) = L
  | [] => rfl
  | x :: L => by
    have ih := pick_range L
    unfold pickI at ih ⊢
    rw [List.length_cons, List.range_succ_eq_map, List.filterMap_cons, List.filterMap_map]
    simpa [Function.comp_def] using ih
theorem Own.calln {L2 : List It} (h : Own S0 B S L) (h2 : Own S [] S' L2) : Own S0 B S' (L2 ++ L) := by
  have := h.call (S' := S') (L1 := []) (L2 := L2) (LR := L) [] (List.range L.length) (by simpa using List.nodup_range) rfl h2 (pick_range L)
  exact this
theorem Own.call0 {L2 : List It} (h : Own S0 B S L) (h2 : Own S [] S' L2) : Own S0 B S' L := by
  have := (h.calln h2).sub (L' := L) (List.range' L2.length L.length) List.nodup_range' ?_
  · exact this
  · rw [List.range'_eq_map_range, pickI, List.filterMap_map]
    have : ((fun i => (L2 ++ L)[i]?) ∘ fun x => L2.length + x) = fun i => L[i]? := funext fun i => by
      simp only [Function.comp]
      rw [List.getElem?_append_right (by omega)]
      congr 1
      omega
    rw [this]
    exact pick_range L

theorem pt_le {l l' : List D} (h : LeL l l') : (D.pt l).le (.pt l') := fun G v r => by
  simp only [Rep] at *
  obtain ⟨a, vs, h1, h2, h3, h4⟩ := r
  exact ⟨a, vs, h1, h2, ⟨h.rep h3.1, h3.2⟩, h4⟩
theorem fn_le {f : Fn} {fs l l' : List D} (h : LeL l l') : (D.fn f fs l).le (.fn f fs l') := fun G v r => by
  simp only [Rep] at *
  obtain ⟨vs, ws, h1, h2, h3⟩ := r
  exact ⟨vs, ws, h1, h2, h.rep h3⟩

/-! ### Nothing in an object, as a row of its own -/
theorem Sim.obTo (h : Sim S G w) {k T : Nat} {cs cs' : List D} (hk : S.ob k = some (.cells T cs)) (hl : ∀ vs, RepL G cs vs → RepL G cs' vs) : Sim (S.setOb k (some (.cells T cs'))) G w where
  below := h.below
  im := h.im
  obj := fun j o x => by
    simp only [Store.ob_setOb] at x
    split at x
    · rename_i e
      subst e
      cases x
      obtain ⟨b, g1, g2, g3, g4, us, g5, g6, g7⟩ := h.obj j _ hk
      exact ⟨b, g1, g2, g3, g4, us, g5, hl _ g6, g7⟩
    · exact h.obj j o x
  tok := fun t n sz x => h.tok t n sz x
  fresh := fun j hj => by
    obtain ⟨f1, f2, f3, f4⟩ := h.fresh j hj
    have hne : j ≠ k := fun e => by subst e; rw [f2] at hk; cases hk
    exact ⟨f1, by simp [hne, f2], f3, f4⟩
  owned := h.owned
theorem repL_set {d' : D} {v0 : Value} (hd : Rep G d' v0) : ∀ {cs : List D} {vs : List Value} (i : Nat), (cs[i]? = some (.lit v0)) → RepL G cs vs → RepL G (cs.set i d') vs
  | [], _, _, h, _ => by simp at h
  | d :: cs, vs, 0, h, r => by
    simp at h; subst h
    simp only [List.set_cons_zero, RepL] at *
    obtain ⟨x, s, h1, h2, h3⟩ := r
    simp only [Rep] at h2
    exact ⟨x, s, h1, h2 ▸ hd, h3⟩
  | d :: cs, vs, i + 1, h, r => by
    simp at h
    simp only [List.set_cons_succ, RepL] at *
    obtain ⟨x, s, h1, h2, h3⟩ := r
    exact ⟨x, s, h1, h2, repL_set hd i h h3⟩
theorem Sim.nilO (hs : Sim S G w) {k T : Nat} {cs : List D} (off sz : Nat) (hk : S.ob k = some (.cells T cs)) (hn : cs[off]? = some nilS) :
    ∃ G' tk, S.tk tk = none ∧ Ext G G' ∧ Sim ((S.setTk tk (some (0, sz))).setOb k (some (.cells T (cs.set off (.sl sz [] (some tk)))))) G' w := by
  obtain ⟨G', tk, h1, h2, h3, h4⟩ := nil_tk hs sz
  exact ⟨G', tk, h1, h2, h3.obTo (T := T) (cs := cs) hk fun vs hv => repL_set h4 off hn hv⟩
theorem AOps_nilO {ops : Array Oper} {l : List Nat} {k T : Nat} {cs : List D} (off sz : Nat) (hk : S.ob k = some (.cells T cs)) (hn : cs[off]? = some nilS)
    (h : ∀ S' tk, S.tk tk = none → S'.tk = (S.setTk tk (some (0, sz))).tk → S'.ob k = some (.cells T (cs.set off (.sl sz [] (some tk)))) → (∀ j, j ≠ k → S'.ob j = S.ob j) → AOps P ops Q l sl S') : AOps P ops Q l sl S := by
  intro G w a hs hr hd
  obtain ⟨G', tk, h1, h2, h3⟩ := hs.nilO off sz hk hn
  exact wpOps_mono (fun e a w x => liftQ_ext h2 x) _ _ _ (h ((S.setTk tk (some (0, sz))).setOb k (some (.cells T (cs.set off (.sl sz [] (some tk)))))) tk h1 rfl (by simp) (fun j hj => by simp [hj]) G' w a h3 (hr.ext h2) hd)
theorem Own.nilO {k T tk sz : Nat} {cs' : List D} {L' : List It} (h : Own S0 B S L) (i : Nat) (hi : (L[i]?).map It.id = some (true, k)) (hf : S.tk tk = none) (h1 : S'.tk = (S.setTk tk (some (0, sz))).tk) (h2 : S'.ob k = some (.cells T cs')) (h3 : ∀ j, j ≠ k → S'.ob j = S.ob j)
    (hL : L.set i (.o k (.cells T cs')) ++ [.t tk 0 sz] = L') : Own S0 B S' L' := by
  subst hL
  have a1 := h.tkN hf (Upd.mk' S tk (0, sz))
  obtain ⟨x, hx, e⟩ := item_of hi
  have hlt : i < L.length := (List.getElem?_eq_some_iff.1 hx).1
  have a2 := a1.moveS (S' := S') (i := i) (x := x) (i' := .o k (.cells T cs')) (by rw [List.getElem?_append_left hlt]; exact hx) e
    (fun j hj => by rw [h3 j (fun e => hj (by rw [e]; rfl))]; rfl) (fun j _ => by rw [h1]) (by simp only [It.on]; exact h2)
  rw [List.set_append_left _ _ hlt] at a2
  exact a2

/-! ### Texts and bytes -/
theorem toNat_b8 (b : UInt8) : UInt8.ofNat (b.toNat : Int).toNat = b := by simp
theorem lits_of {x : List UInt8} {vs : List Value} (h : RepLL G 1 (x.map eB) vs) : vs = (x.map fun b => (b.toNat : Int)).map (Value.int .u8) := by
  induction x generalizing vs with
  | nil => simpa [RepLL] using h
  | cons b x ih =>
    simp only [List.map_cons, RepLL] at h
    obtain ⟨y, r, rfl, h2, h3, h4⟩ := h
    simp only [eB, RepL, Rep] at h3
    obtain ⟨⟨z, s, rfl, rfl, rfl⟩, _⟩ := h3
    rw [ih h4]
    rfl
theorem str_key {t t2 e : TypeId} {v : Value} {tl : Option Nat} (x : List UInt8) (him : ∀ b o v, G.im b o = some v → w.cell? ⟨b, o, none⟩ = some v)
    (ht : P.underlying t = some (.slice e)) (ht2 : P.underlying t2 = some .string) (he : P.underlying e = some (.int .u8)) (h1 : Rep G (.sl 1 (x.map eB) tl) v) : (convert t t2 v).run P w = .ok (.string ⟨x.toArray⟩) w := by
  simp only [Rep] at h1
  obtain ⟨A, c, h2, h3, _, h4⟩ := h1
  rw [h2]
  rcases h4 with h4 | ⟨a', vs, rfl, h5, h6, h7⟩
  · have hx : x = [] := by simpa using h4
    subst hx
    cases A with
    | none => exact run_convert_bytes_nil w t e ht he _ _ t2 ht2
    | some a' =>
      rw [run_convert_bytes_string w t t2 e _ _ _ ht he ht2]
      have := run_bytesToString (P := P) w a' 0 c [] (by simpa using run_loadCells_list (P := P) w a' [] (fun j v hv => by simp at hv))
      have e0 : ByteArray.empty = ⟨#[]⟩ := rfl
      simpa [e0] using this
  · have e1 := lits_of h6
    have hl : (loadCells a' (x.map eB).length).run P w = .ok ((x.map fun b => (b.toNat : Int)).map (Value.int .u8)).toArray w := by
      have := run_loadCells_list (P := P) w a' vs (fun j v hv => by rw [add_eq h5]; exact him _ _ _ (h7 j v hv))
      rw [e1] at this
      simpa using this
    rw [run_convert_bytes_string w t t2 e _ _ _ ht he ht2, run_bytesToString w a' _ c _ hl, foldl_push_bytes]
    congr 2
    simp only [ByteArray.empty, ByteArray.emptyWithCapacity]
    congr 1
    simp [Function.comp_def]
    rfl
theorem AOps_str {ops : Array Oper} {i : Nat} {l : List Nat} {o : Oper} {t t2 e : TypeId} {y : Operand} {tl : Option Nat} (x : List UInt8) (ho : ops[i]? = some o) (hw : awanted ops sl o = some true) (hop : o.op = .convert t t2 y)
    (ht : P.underlying t = some (.slice e)) (ht2 : P.underlying t2 = some .string) (he : P.underlying e = some (.int .u8)) (hy : aval sl y = .sl 1 (x.map eB) tl)
    (h : AOps P ops Q l (aput sl o.dst (str x)) S) : AOps P ops Q (i :: l) sl S := by
  refine AOps_one ho hw fun G w a hs hr hdf => ?_
  exact ⟨_, w, G, str x, S, by simp only [execOp, hop]; exact wrap_v (str_key x hs.im ht ht2 he (hy ▸ aval_rep hr y)), Ext.refl G, hs, .inr ⟨_, rfl, by simp [Rep]⟩, h⟩
theorem AOps_strN {ops : Array Oper} {i : Nat} {l : List Nat} {o : Oper} {t t2 e : TypeId} {y : Operand} (ho : ops[i]? = some o) (hw : awanted ops sl o = some true) (hop : o.op = .convert t t2 y)
    (ht : P.underlying t = some (.slice e)) (ht2 : P.underlying t2 = some .string) (he : P.underlying e = some (.int .u8)) (hy : aval sl y = nilS)
    (h : AOps P ops Q l (aput sl o.dst (str [])) S) : AOps P ops Q (i :: l) sl S := by
  refine AOps_one ho hw fun G w a hs hr hdf => ?_
  have h1 := lit_of hr hy
  exact ⟨_, w, G, str [], S, by simp only [execOp, hop]; exact wrap_v (by rw [h1]; exact run_convert_bytes_nil w t e ht he _ _ t2 ht2), Ext.refl G, hs, .inr ⟨_, rfl, by simp [Rep]; rfl⟩, h⟩
theorem AAny_str {ops : Array Oper} {E : List Nat} {st : Nat} {I : Store → Prop} {fuel : Nat} {listed : Array Bool} {i : Nat} {o : Oper} {t t2 e : TypeId} {y : Operand} {tl : Option Nat} (x : List UInt8) (ho : ops[i]? = some o) (hf : freeD ops E st false listed i = true) (hw : awanted ops (vis ops o sl) o = some true) (hop : o.op = .convert t t2 y)
    (ht : P.underlying t = some (.slice e)) (ht2 : P.underlying t2 = some .string) (he : P.underlying e = some (.int .u8)) (hy : aval (vis ops o sl) y = .sl 1 (x.map eB) tl)
    (h : AAny P ops E st I (RQ Q) fuel (listed.setIfInBounds i true) (aput sl o.dst (str x)) S) : AAny P ops E st I (RQ Q) (fuel + 1) listed sl S :=
  AAny_take (ri := false) ho hf (fun e => by cases e) (.inr (.inl fun G a w hr him => ⟨awanted_sound hr hw, _, by simp only [execOp, hop]; exact wrap_v (str_key x him ht ht2 he (hy ▸ aval_rep hr y)), by simp [Rep]⟩)) h

theorem cell_alloc_fr (w : World) (cs : Array Value) (T : TypeId) (fr : Nat × Nat) (a : Addr) : (w.alloc (.cells cs T fr)).cell? a = (w.alloc (.cells cs T)).cell? a := by
  by_cases e : a.block = w.heap.size
  · unfold World.cell?
    rw [e, heap_alloc_at, heap_alloc_at]
  · rw [World.cell?_alloc_old _ _ _ e, World.cell?_alloc_old _ _ _ e]
theorem Sim.refr {cs : Array Value} {T : TypeId} (h : Sim S G (w.alloc (.cells cs T))) (fr : Nat × Nat) (hfr : ∀ o, o < cs.size → ¬ (fr.1 ≤ o ∧ o < fr.2)) (hb : Below G.w0.heap.size G.w0 (w.alloc (.cells cs T fr))) (hno : ∀ k o, S.ob k = some o → G.bl k ≠ some w.heap.size) :
    Sim S G (w.alloc (.cells cs T fr)) where
  below := hb
  im := fun b o v x => by rw [cell_alloc_fr]; exact h.im b o v x
  obj := fun k o x => by
    obtain ⟨b, h1, h2, h3, h4, h5⟩ := h.obj k o x
    have hne : b ≠ w.heap.size := fun e => hno k o x (e ▸ h1)
    have hlt := h5.lt
    simp at hlt
    exact ⟨b, h1, h2, h3, h4, h5.kept (Ext.refl G) (by rw [heap_alloc_lt w _ (by omega), heap_alloc_lt w _ (by omega)])⟩
  tok := fun t n sz x => by
    obtain ⟨A, c, h1, h2, h3, h4⟩ := h.tok t n sz x
    refine ⟨A, c, h1, h2, fun hn => ?_, h4⟩
    obtain ⟨a, h5, h6, h7, h8, ⟨cs', E, fr', h9, h10, h11⟩, h12⟩ := h3 hn
    by_cases e : a.block = w.heap.size
    · rw [e, heap_alloc_at] at h9
      cases h9
      exact ⟨a, h5, h6, h7, h8, ⟨cs, T, fr, by rw [e, heap_alloc_at], h10, hfr⟩, h12⟩
    · have hlt := heap_lt_of_some h9
      simp at hlt
      have h13 : a.block < w.heap.size := by omega
      exact ⟨a, h5, h6, h7, h8, ⟨cs', E, fr', by rw [heap_alloc_lt w _ h13] at h9 ⊢; exact h9, h10, h11⟩, h12⟩
  fresh := h.fresh
  owned := fun b hb => h.owned b (by simpa using hb)
theorem repLL_bytes (x : List UInt8) : RepLL G 1 (x.map eB) (x.map fun b => Value.int .u8 (b.toNat : Int)) := by
  induction x with
  | nil => simp [RepLL]
  | cons b x ih =>
    simp only [List.map_cons, RepLL]
    refine ⟨[Value.int .u8 (b.toNat : Int)], _, rfl, rfl, ⟨by simp [eB, RepL, Rep], ?_⟩, ih⟩
    intro v hv
    rw [List.mem_singleton.1 hv]
    rfl
theorem AOps_bytes {ops : Array Oper} {i : Nat} {l : List Nat} {o : Oper} {t t2 e : TypeId} {y : Operand} (x : List UInt8) (ho : ops[i]? = some o) (hw : awanted ops sl o = some true) (hop : o.op = .convert t t2 y)
    (ht : P.underlying t = some .string) (ht2 : P.underlying t2 = some (.slice e)) (he : P.underlying e = some (.int .u8)) (hy : aval sl y = str x) (_hfit : x.length ≤ 140737488355328)
    (h : ∀ S' tk, S.tk tk = none → Upd S S' tk (x.length, 1) → AOps P ops Q l (aput sl o.dst (.sl 1 (x.map eB) (some tk))) S') : AOps P ops Q (i :: l) sl S := by
  refine AOps_one ho hw fun G w a hs hr hdf => ?_
  have h1 := lit_of hr hy
  have hsz : (⟨x.toArray⟩ : ByteArray).size = x.length := by simp [ByteArray.size]
  have key := run_bytes_of_string (P := P) w t t2 e ⟨x.toArray⟩ ht ht2 he
  rw [hsz] at key
  have hcap := grownCap_ge w x.length 0 e
  have hcapm := grownCap_le_maxLen w x.length 0 e (by simp only [maxLen]; omega)
  simp only [maxLen] at hcapm
  generalize hc : grownCap w x.length 0 e = cap at key hcap hcapm
  obtain ⟨G', e1, s1, k1, k2, k3⟩ := hs.drew.alloc_tk (x.map fun b => Value.int .u8 (b.toNat : Int)) (List.replicate (cap - x.length) (Value.int .u8 0)) e x.length cap 1 (by simp) hcap (by simp; omega) hcapm
  have erow : bytesRow ⟨x.toArray⟩ cap = ((x.map fun b => Value.int .u8 (b.toNat : Int)) ++ List.replicate (cap - x.length) (Value.int .u8 0)).toArray := by
    simp [bytesRow, hsz]
  rw [erow] at key
  have hno : ∀ k o, (S.setTk G.nx (some (x.length, 1))).ob k = some o → G'.bl k ≠ some w.drew.heap.size := fun k o hk e => by
    obtain ⟨b, g1, _, _, _, g5⟩ := hs.drew.obj k o hk
    have := e1.bl _ _ g1
    rw [e] at this
    cases this
    exact absurd g5.lt (Nat.lt_irrefl _)
  generalize hcs : ((x.map fun b => Value.int .u8 (b.toNat : Int)) ++ List.replicate (cap - x.length) (Value.int .u8 0)).toArray = cs at key s1
  have s2 := s1.refr (w := w.drew) (cs.size, cs.size + 1) (fun o ho hh => by have := hh.1; simp only at this; omega) (by rw [e1.w0]; exact hs.drew.below.alloc hs.drew.size_ge _) hno
  refine ⟨_, _, G', .sl 1 (x.map eB) (some G.nx), _, by simp only [execOp, hop]; exact wrap_v' (by rw [h1]; exact key), e1, s2, .inr ⟨_, rfl, ?_⟩, h _ G.nx k3 (Upd.mk' S G.nx _)⟩
  simp only [Rep, List.length_map]
  refine ⟨_, cap, rfl, hcap, fun t' ht' => by cases ht'; exact k2, .inr ⟨_, _, rfl, rfl, repLL_bytes x, k1⟩⟩

/-! ### Arrays -/
structure Ar (α : Type) (n : Nat) where
  l : List α
  h : l.length = n
instance {α : Type} {n : Nat} [DecidableEq α] : DecidableEq (Ar α n) := fun a b => if h : a.l = b.l then .isTrue (by cases a; cases b; cases h; rfl) else .isFalse (fun e => h (by rw [e]))
theorem Ar.ext {α : Type} {n : Nat} {a b : Ar α n} (h : a.l = b.l) : a = b := by cases a; cases b; cases h; rfl
def Ar.of {α : Type} (n : Nat) (d : α) (l : List α) : Ar α n := ⟨(l ++ List.replicate n d).take n, by simp⟩
theorem Ar.of_l {α : Type} {n : Nat} {d : α} {l : List α} (h : l.length = n) : (Ar.of n d l).l = l := by simp [Ar.of, h]
def Ar.enc {α : Type} {n : Nat} (E : α → List D) (a : Ar α n) : List D := rowC E a.l
theorem Ar.enc_len {α : Type} {n sz : Nat} (E : α → List D) (a : Ar α n) (hE : ∀ x, (E x).length = 1) : (Ar.enc E a).length = n := by
  unfold Ar.enc; rw [rowC_len (sz := 1) hE, a.h, Nat.mul_one]
abbrev eU32 (n : Int) : List D := [u32 n]
theorem AOps_arLoad {ops : Array Oper} {i : Nat} {l : List Nat} {o : Oper} {t k T N : Nat} {x : Operand} {α : Type} {E : α → List D} {r : List α} {d0 : α} (ho : ops[i]? = some o) (hw : awanted ops sl o = some true) (hop : o.op = .load t x)
    (hx : aval sl x = .ob k 0) (hk : S.ob k = some (.cells T (rowC E r))) (hE : ∀ x, (E x).length = 1) (hl : r.length = N) (ha : aggT P t = some true) (hn : cellsN P t = some N)
    (h : AOps P ops Q l (aput sl o.dst (.ag (Ar.enc E (Ar.of N d0 r)))) S) : AOps P ops Q (i :: l) sl S := by
  refine AOps_load (.ag (rowC E r)) ho hw hop hx hk (.inl ⟨ha, N, hn, ?_, ?_⟩) ?_
  · rw [rowC_len hE, hl]; omega
  · rw [List.drop_zero, List.take_of_length_le (by rw [rowC_len hE, hl]; omega)]
  · rw [Ar.enc, Ar.of_l hl] at h; exact h
theorem int_inj (a b : Int) (h : Value.int .i64 a = Value.int .i64 b) : a = b := by cases h; rfl
end Go.Proofs.Ytfaojkajlpojlaa.Abs
