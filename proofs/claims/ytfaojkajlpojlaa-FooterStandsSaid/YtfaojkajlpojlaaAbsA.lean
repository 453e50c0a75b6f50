/- The data that stand for what Go values hold, the ghost state, and how both stand to the machine's memory. -/
import Derived.Below
import Derived.Deep.Draws
import Derived.LoopN
import Derived.Calls
import Derived.Laws.Sem
namespace Go.Proofs.Ytfaojkajlpojlaa.Abs
open Go Go.RowKit

/-- Data. -/
inductive D where
  | lit (v : Value)
  | sl (sz : Nat) (es : List (List D)) (tl : Option Nat)
  | ag (cs : List D)
  | tup (ds : List D)
  | ob (b off : Nat)
  | pt (cs : List D)
  | vw (b off n c : Nat)
  | fn (f : Fn) (first captured : List D)
  | mp (b : Nat)
  | cap (c : Nat) (d : D)
  | wd (sz : Nat) (es : List (List D)) (t m c : Nat)
  | fl (n : Int)
  | cx (a b : Int)
  | any
  deriving Inhabited

/-- What is known of memory beside the program's own view. -/
structure Gh where
  w0 : World
  im : Nat → Nat → Option Value
  bl : Nat → Option Nat
  th : Nat → Nat → Option (Option Addr × Nat)
  own : Nat → Option (Sum Nat Nat)
  nx : Nat

def Gh.has (G : Gh) (a : Addr) (vs : List Value) : Prop := ∀ i v, vs[i]? = some v → G.im a.block (a.off + i) = some v

def One (vs : List Value) : Prop := ∀ v ∈ vs, v.oneCell' = true
theorem One.nil : One [] := fun _ h => by cases h
theorem One.append {x y : List Value} (h : One x) (k : One y) : One (x ++ y) := fun v hv => (List.mem_append.1 hv).elim (h v) (k v)
theorem One.of_sub {x y : List Value} (h : One y) (k : ∀ v ∈ x, v ∈ y) : One x := fun v hv => h v (k v hv)
theorem One.take {x : List Value} (h : One x) (n : Nat) : One (x.take n) := h.of_sub fun _ hv => List.mem_of_mem_take hv
theorem One.drop {x : List Value} (h : One x) (n : Nat) : One (x.drop n) := h.of_sub fun _ hv => List.mem_of_mem_drop hv

/-- The bits of a whole number, as a float. -/
def FlB (bits : Nat) (n : Int) : Prop := ∃ (s : Bool) (k : Nat), Ieee.double.read bits = .number s (n.natAbs * 2 ^ k) (-(k : Int)) ∧ (n ≠ 0 → s = decide (n < 0))
mutual
def Rep (G : Gh) : D → Value → Prop
  | .lit x, v => v = x
  | .sl sz es tl, v => ∃ A c, v = .slice A es.length c ∧ es.length ≤ c ∧ (∀ t, tl = some t → G.th t es.length = some (A, c)) ∧
      (es = [] ∨ ∃ a vs, A = some a ∧ a.spot = none ∧ RepLL G sz es vs ∧ G.has a vs)
  | .ag cs, v => ∃ vs, v = .agg vs.toArray ∧ RepL G cs vs ∧ One vs
  | .tup ds, v => ∃ vs, v = .tuple vs.toArray ∧ RepL G ds vs
  | .ob b off, v => ∃ k, v = .pointer (some ⟨k, off, none⟩) ∧ G.bl b = some k
  | .pt cs, v => ∃ a vs, v = .pointer (some a) ∧ a.spot = none ∧ (RepL G cs vs ∧ One vs) ∧ G.has a vs
  | .vw b off n c, v => ∃ k, v = .slice (some ⟨k, off, none⟩) n c ∧ G.bl b = some k
  | .fn f fs cs, v => ∃ vs ws, v = .func f vs.toArray ws.toArray ∧ RepL G fs vs ∧ RepL G cs ws
  | .mp b, v => ∃ k, v = .map (some k) ∧ G.bl b = some k
  | .cap c d, v => Rep G d v ∧ ∃ A n, v = .slice A n c
  | .wd sz es t m c, v => ∃ A, v = .slice A m c ∧ es.length ≤ m ∧ m ≤ c ∧ G.th t es.length = some (A, c) ∧ (es = [] ∨ ∃ a vs, A = some a ∧ a.spot = none ∧ RepLL G sz es vs ∧ G.has a vs)
  | .fl n, v => ∃ x, v = .float .f64 x ∧ FlB x n
  | .cx a b, v => ∃ x y, v = .complex .f64 x y ∧ FlB x a ∧ FlB y b
  | .any, _ => True
def RepL (G : Gh) : List D → List Value → Prop
  | [], vs => vs = []
  | d :: ds, vs => ∃ x r, vs = x :: r ∧ Rep G d x ∧ RepL G ds r
def RepLL (G : Gh) (sz : Nat) : List (List D) → List Value → Prop
  | [], vs => vs = []
  | e :: es, vs => ∃ x r, vs = x ++ r ∧ e.length = sz ∧ (RepL G e x ∧ One x) ∧ RepLL G sz es r
end

/-- A later ghost state. -/
structure Ext (G G' : Gh) : Prop where
  w0 : G'.w0 = G.w0
  im : ∀ b o v, G.im b o = some v → G'.im b o = some v
  bl : ∀ k b, G.bl k = some b → G'.bl k = some b
  th : ∀ t n x, G.th t n = some x → G'.th t n = some x
  nx : G.nx ≤ G'.nx

theorem Ext.refl (G : Gh) : Ext G G := ⟨rfl, fun _ _ _ h => h, fun _ _ h => h, fun _ _ _ h => h, Nat.le_refl _⟩
theorem Ext.trans {A B C : Gh} (h : Ext A B) (k : Ext B C) : Ext A C :=
  ⟨k.w0.trans h.w0, fun _ _ _ x => k.im _ _ _ (h.im _ _ _ x), fun _ _ x => k.bl _ _ (h.bl _ _ x), fun _ _ _ x => k.th _ _ _ (h.th _ _ _ x), Nat.le_trans h.nx k.nx⟩

theorem Gh.has_ext {G G' : Gh} (h : Ext G G') {a : Addr} {vs : List Value} (x : G.has a vs) : G'.has a vs := fun i v hv => h.im _ _ _ (x i v hv)

mutual
theorem Rep.ext {G G' : Gh} (h : Ext G G') : ∀ (d : D) (v : Value), Rep G d v → Rep G' d v
  | .lit x, v, r => by simp only [Rep] at *; exact r
  | .sl sz es tl, v, r => by
    simp only [Rep] at *
    obtain ⟨A, c, h1, h2, h3, h4⟩ := r
    refine ⟨A, c, h1, h2, fun t ht => h.th _ _ _ (h3 t ht), ?_⟩
    rcases h4 with h4 | ⟨a, vs, h5, h6, h7, h8⟩
    · exact .inl h4
    · exact .inr ⟨a, vs, h5, h6, RepLL.ext h sz es vs h7, Gh.has_ext h h8⟩
  | .ag cs, v, r => by
    simp only [Rep] at *
    obtain ⟨vs, h1, h2, h3⟩ := r
    exact ⟨vs, h1, RepL.ext h cs vs h2, h3⟩
  | .tup ds, v, r => by
    simp only [Rep] at *
    obtain ⟨vs, h1, h2⟩ := r
    exact ⟨vs, h1, RepL.ext h ds vs h2⟩
  | .ob b off, v, r => by
    simp only [Rep] at *
    obtain ⟨k, h1, h2⟩ := r
    exact ⟨k, h1, h.bl _ _ h2⟩
  | .pt cs, v, r => by
    simp only [Rep] at *
    obtain ⟨a, vs, h1, h2, h3, h4⟩ := r
    exact ⟨a, vs, h1, h2, ⟨RepL.ext h cs vs h3.1, h3.2⟩, Gh.has_ext h h4⟩
  | .vw b off n c, v, r => by
    simp only [Rep] at *
    obtain ⟨k, h1, h2⟩ := r
    exact ⟨k, h1, h.bl _ _ h2⟩
  | .fn f fs cs, v, r => by
    simp only [Rep] at *
    obtain ⟨vs, ws, h1, h2, h3⟩ := r
    exact ⟨vs, ws, h1, RepL.ext h fs vs h2, RepL.ext h cs ws h3⟩
  | .mp b, v, r => by
    simp only [Rep] at *
    obtain ⟨k, h1, h2⟩ := r
    exact ⟨k, h1, h.bl _ _ h2⟩
  | .cap c d, v, r => by
    simp only [Rep] at *
    exact ⟨Rep.ext h d v r.1, r.2⟩
  | .wd sz es t m c, v, r => by
    simp only [Rep] at *
    obtain ⟨A, h1, h2, h3, h4, h5⟩ := r
    refine ⟨A, h1, h2, h3, h.th _ _ _ h4, ?_⟩
    rcases h5 with h5 | ⟨a, vs, h5, h6, h7, h8⟩
    · exact .inl h5
    · exact .inr ⟨a, vs, h5, h6, RepLL.ext h sz es vs h7, Gh.has_ext h h8⟩
  | .fl n, v, r => by simp only [Rep] at *; exact r
  | .cx a b, v, r => by simp only [Rep] at *; exact r
  | .any, v, r => by simp only [Rep]
theorem RepL.ext {G G' : Gh} (h : Ext G G') : ∀ (ds : List D) (vs : List Value), RepL G ds vs → RepL G' ds vs
  | [], vs, r => by simp only [RepL] at *; exact r
  | d :: ds, vs, r => by
    simp only [RepL] at *
    obtain ⟨x, s, h1, h2, h3⟩ := r
    exact ⟨x, s, h1, Rep.ext h d x h2, RepL.ext h ds s h3⟩
theorem RepLL.ext {G G' : Gh} (h : Ext G G') (sz : Nat) : ∀ (es : List (List D)) (vs : List Value), RepLL G sz es vs → RepLL G' sz es vs
  | [], vs, r => by simp only [RepLL] at *; exact r
  | e :: es, vs, r => by
    simp only [RepLL] at *
    obtain ⟨x, s, h1, h2, h3, h4⟩ := r
    exact ⟨x, s, h1, h2, ⟨RepL.ext h e x h3.1, h3.2⟩, RepLL.ext h sz es s h4⟩
end

/-- A mutable object. -/
inductive Ob where
  | cells (T : TypeId) (cs : List D)
  | map (es : List (D × D × Nat)) (clock : Nat)

/-- The program's own view of what can still change: its objects, and who may append in place. -/
structure Store where
  ob : Nat → Option Ob
  tk : Nat → Option (Nat × Nat)

def RepE (G : Gh) : List (D × D × Nat) → List MapEntry → Prop
  | [], l => l = []
  | e :: es, l => ∃ x r, l = x :: r ∧ Rep G e.1 x.key ∧ Rep G e.2.1 x.val ∧ x.born = e.2.2 ∧ RepE G es r

theorem RepE.ext {G G' : Gh} (h : Ext G G') : ∀ (es : List (D × D × Nat)) (l : List MapEntry), RepE G es l → RepE G' es l
  | [], l, r => by simp only [RepE] at *; exact r
  | e :: es, l, r => by
    simp only [RepE] at *
    obtain ⟨x, s, h1, h2, h3, h4, h5⟩ := r
    exact ⟨x, s, h1, Rep.ext h _ _ h2, Rep.ext h _ _ h3, h4, RepE.ext h es s h5⟩

def ObRep (G : Gh) (w : World) (b : Nat) : Ob → Prop
  | .cells T cs => ∃ vs, w.heap[b]? = some (.cells vs.toArray T (0, 0)) ∧ RepL G cs vs ∧ One vs
  | .map es clock => ∃ l, w.heap[b]? = some (.map l.toArray clock) ∧ RepE G es l

def Tail (G : Gh) (w : World) (t : Nat) (a : Addr) (n c sz : Nat) : Prop :=
  a.spot = none ∧ G.own a.block = some (.inr t) ∧ G.w0.heap.size ≤ a.block ∧
  (∃ cs E fr, w.heap[a.block]? = some (.cells cs E fr) ∧ (a.off + c * sz ≤ cs.size ∧ c ≤ 9223372036854775807) ∧ (∀ o, o < cs.size → ¬ (fr.1 ≤ o ∧ o < fr.2))) ∧
  ∀ o, a.off + n * sz ≤ o → G.im a.block o = none

structure Sim (S : Store) (G : Gh) (w : World) : Prop where
  below : Below G.w0.heap.size G.w0 w
  im : ∀ b o v, G.im b o = some v → w.cell? ⟨b, o, none⟩ = some v
  obj : ∀ k o, S.ob k = some o → ∃ b, G.bl k = some b ∧ G.own b = some (.inl k) ∧ G.w0.heap.size ≤ b ∧ (∀ i, G.im b i = none) ∧ ObRep G w b o
  tok : ∀ t n sz, S.tk t = some (n, sz) → ∃ A c, G.th t n = some (A, c) ∧ n ≤ c ∧ (n < c → ∃ a, A = some a ∧ Tail G w t a n c sz) ∧ ∀ m, n < m → G.th t m = none
  fresh : ∀ k, G.nx ≤ k → G.bl k = none ∧ S.ob k = none ∧ S.tk k = none ∧ ∀ n, G.th k n = none
  owned : ∀ b, w.heap.size ≤ b → G.own b = none

theorem getElem?_of_lt_none {α : Type} {l : Array α} {i : Nat} (h : l.size ≤ i) : l[i]? = none := Array.getElem?_eq_none h

theorem Sim.im_new {S : Store} {G : Gh} {w : World} (h : Sim S G w) {b o : Nat} (hb : w.heap.size ≤ b) : G.im b o = none := by
  cases hx : G.im b o with
  | none => rfl
  | some v =>
    have := World.block_lt_of_cell? w _ (h.im _ _ _ hx)
    simp at this; omega

/-! ### Lists -/
theorem RepL.length {G : Gh} : ∀ {ds : List D} {vs : List Value}, RepL G ds vs → vs.length = ds.length
  | [], vs, h => by simp only [RepL] at h; simp [h]
  | d :: ds, vs, h => by
    simp only [RepL] at h
    obtain ⟨x, r, rfl, _, h3⟩ := h
    simp [RepL.length h3]

theorem RepL.get {G : Gh} : ∀ {ds : List D} {vs : List Value} (i : Nat) (d : D), RepL G ds vs → ds[i]? = some d → ∃ v, vs[i]? = some v ∧ Rep G d v
  | [], _, _, _, _, hd => by simp at hd
  | e :: ds, vs, i, d, h, hd => by
    simp only [RepL] at h
    obtain ⟨x, r, rfl, h2, h3⟩ := h
    cases i with
    | zero => simp at hd; subst hd; exact ⟨x, by simp, h2⟩
    | succ i => simp at hd; obtain ⟨v, h4, h5⟩ := RepL.get i d h3 hd; exact ⟨v, by simpa using h4, h5⟩

theorem RepL.set {G : Gh} : ∀ {ds : List D} {vs : List Value} (i : Nat) (d : D) (v : Value), RepL G ds vs → Rep G d v → RepL G (ds.set i d) (vs.set i v)
  | [], vs, i, d, v, h, hd => by simp only [RepL] at h; subst h; simp [RepL]
  | e :: ds, vs, i, d, v, h, hd => by
    simp only [RepL] at h
    obtain ⟨x, r, rfl, h2, h3⟩ := h
    cases i with
    | zero => simp only [List.set_cons_zero, RepL]; exact ⟨v, r, rfl, hd, h3⟩
    | succ i => simp only [List.set_cons_succ, RepL]; exact ⟨x, _, rfl, h2, RepL.set i d v h3 hd⟩

theorem RepL.append {G : Gh} : ∀ {ds : List D} {vs : List Value} {es : List D} {ws : List Value}, RepL G ds vs → RepL G es ws → RepL G (ds ++ es) (vs ++ ws)
  | [], vs, es, ws, h, k => by simp only [RepL] at h; subst h; simpa using k
  | d :: ds, vs, es, ws, h, k => by
    simp only [RepL] at h
    obtain ⟨x, r, rfl, h2, h3⟩ := h
    simp only [List.cons_append, RepL]
    exact ⟨x, _, rfl, h2, RepL.append h3 k⟩

theorem RepL.split {G : Gh} : ∀ {ds es : List D} {vs : List Value}, RepL G (ds ++ es) vs → ∃ x y, vs = x ++ y ∧ RepL G ds x ∧ RepL G es y
  | [], es, vs, h => ⟨[], vs, rfl, by simp [RepL], by simpa using h⟩
  | d :: ds, es, vs, h => by
    simp only [List.cons_append, RepL] at h
    obtain ⟨x, r, rfl, h2, h3⟩ := h
    obtain ⟨y, z, rfl, h4, h5⟩ := RepL.split h3
    exact ⟨x :: y, z, rfl, by simp only [RepL]; exact ⟨x, y, rfl, h2, h4⟩, h5⟩

theorem RepL.any {G : Gh} : ∀ (vs : List Value), RepL G (List.replicate vs.length .any) vs
  | [] => by simp [RepL]
  | v :: vs => by simp only [List.length_cons, List.replicate_succ, RepL]; exact ⟨v, vs, rfl, by simp [Rep], RepL.any vs⟩

theorem RepLL.split {G : Gh} {sz : Nat} : ∀ {ds es : List (List D)} {vs : List Value}, RepLL G sz (ds ++ es) vs → ∃ x y, vs = x ++ y ∧ x.length = ds.length * sz ∧ RepLL G sz ds x ∧ RepLL G sz es y
  | [], es, vs, h => ⟨[], vs, rfl, by simp, by simp [RepLL], by simpa using h⟩
  | d :: ds, es, vs, h => by
    simp only [List.cons_append, RepLL] at h
    obtain ⟨x, r, rfl, h2, h3, h4⟩ := h
    obtain ⟨y, z, rfl, h5, h6, h7⟩ := RepLL.split h4
    refine ⟨x ++ y, z, by simp, ?_, ?_, h7⟩
    · simp [h5, h3.1.length, h2, Nat.add_mul]; omega
    · simp only [RepLL]; exact ⟨x, y, rfl, h2, h3, h6⟩

theorem RepLL.append {G : Gh} {sz : Nat} : ∀ {ds : List (List D)} {vs : List Value} {es : List (List D)} {ws : List Value}, RepLL G sz ds vs → RepLL G sz es ws → RepLL G sz (ds ++ es) (vs ++ ws)
  | [], vs, es, ws, h, k => by simp only [RepLL] at h; subst h; simpa using k
  | d :: ds, vs, es, ws, h, k => by
    simp only [RepLL] at h
    obtain ⟨x, r, rfl, h2, h3, h4⟩ := h
    simp only [List.cons_append, RepLL]
    exact ⟨x, r ++ ws, by simp, h2, h3, RepLL.append h4 k⟩

theorem RepLL.length {G : Gh} {sz : Nat} : ∀ {ds : List (List D)} {vs : List Value}, RepLL G sz ds vs → vs.length = ds.length * sz
  | [], vs, h => by simp only [RepLL] at h; simp [h]
  | d :: ds, vs, h => by
    simp only [RepLL] at h
    obtain ⟨x, r, rfl, h2, h3, h4⟩ := h
    simp [h3.1.length, h2, RepLL.length h4, Nat.add_mul]; omega

/-- Element i of a row. -/
theorem RepLL.get {G : Gh} {sz : Nat} {es : List (List D)} {vs : List Value} (i : Nat) (e : List D) (h : RepLL G sz es vs) (he : es[i]? = some e) :
    e.length = sz ∧ ∃ x, (RepL G e x ∧ One x) ∧ ∀ j v, x[j]? = some v → vs[i * sz + j]? = some v := by
  have hi : i < es.length := by
    rcases Nat.lt_or_ge i es.length with h | h
    · exact h
    · simp [List.getElem?_eq_none h] at he
  have e1 : es = es.take i ++ e :: es.drop (i + 1) := by
    have h5 : es[i] = e := by simpa [List.getElem?_eq_getElem hi] using he
    rw [← h5, ← List.drop_eq_getElem_cons hi, List.take_append_drop]
  rw [e1] at h
  obtain ⟨x, y, rfl, hl, h1, h2⟩ := RepLL.split h
  simp only [RepLL] at h2
  obtain ⟨z, r, rfl, h3, h4, h5⟩ := h2
  refine ⟨h3, z, h4, fun j v hj => ?_⟩
  have hl' : x.length = i * sz := by rw [hl, List.length_take]; congr 1; omega
  have hj' : j < z.length := by
    rcases Nat.lt_or_ge j z.length with h | h
    · exact h
    · simp [List.getElem?_eq_none h] at hj
  rw [List.getElem?_append_right (by omega), hl', List.getElem?_append_left (by omega), show i * sz + j - i * sz = j by omega]
  exact hj

theorem Gh.has_split {G : Gh} {a : Addr} {x y : List Value} (h : G.has a (x ++ y)) : G.has a x ∧ ∀ b : Addr, b.block = a.block → b.off = a.off + x.length → G.has b y := by
  refine ⟨fun i v hv => h i v ?_, fun b hb ho i v hv => ?_⟩
  · have : i < x.length := by
      rcases Nat.lt_or_ge i x.length with h | h
      · exact h
      · simp [List.getElem?_eq_none h] at hv
    rw [List.getElem?_append_left this]; exact hv
  · have := h (x.length + i) v (by rw [List.getElem?_append_right (by omega)]; simpa using hv)
    rw [hb, ho, Nat.add_assoc]; exact this

/-! ### Operands -/
def conD : Value → D
  | .agg cs => if cs.all (·.oneCell') then .ag (cs.toList.map .lit) else .lit (.agg cs)
  | v => .lit v
theorem lits_rep {G : Gh} : ∀ (vs : List Value), RepL G (vs.map .lit) vs
  | [] => by simp [RepL]
  | v :: vs => by simp only [List.map_cons, RepL]; exact ⟨v, vs, rfl, by simp [Rep], lits_rep vs⟩
theorem conD_rep {G : Gh} (v : Value) : Rep G (conD v) v := by
  cases v <;> simp only [conD, Rep]
  rename_i cs
  split
  · rename_i h
    simp only [Rep]
    refine ⟨cs.toList, by simp, lits_rep _, fun v hv => ?_⟩
    have := Array.all_eq_true'.1 h v (by simpa using hv)
    exact this
  · simp only [Rep]
def aval (sl : List D) : Operand → D
  | .tmp t => sl.getD t .any
  | .const v => conD v
  | .global g => .lit (.pointer (some ⟨g, 0, none⟩))
  | .func f => .fn (.func f) [] []

theorem aval_rep {G : Gh} {sl : List D} {a : Act} (h : RepL G sl a.tmps.toList) (o : Operand) : Rep G (aval sl o) (a.eval o) := by
  cases o with
  | tmp t =>
    simp only [aval, Act.eval]
    cases hs : sl[t]? with
    | none => simp [List.getD, hs, Rep]
    | some d =>
      obtain ⟨v, h1, h2⟩ := h.get t d hs
      have : a.tmps.getD t undef = v := by
        have h3 : a.tmps[t]? = some v := by simpa using h1
        rw [Array.getD_eq_getD_getElem?, h3]; rfl
      rw [this]
      simpa [List.getD, hs] using h2
  | const v => simp only [aval, Act.eval]; exact conD_rep v
  | global g => simp [aval, Act.eval, Rep]
  | func f => simp only [aval, Act.eval, Rep]; exact ⟨[], [], rfl, by simp [RepL], by simp [RepL]⟩

def aput (sl : List D) (dst : Option Tmp) (d : D) : List D :=
  match dst with
  | some t => sl.set t d
  | none => sl

theorem aput_rep {G : Gh} {sl : List D} {a : Act} (h : RepL G sl a.tmps.toList) (dst : Option Tmp) {d : D} {v : Value} (hd : Rep G d v) :
    RepL G (aput sl dst d) (a.put dst v).tmps.toList := by
  cases dst with
  | none => simpa [aput, Act.put] using h
  | some t =>
    simp only [aput, Act.put, Array.toList_setIfInBounds]
    exact h.set t d v hd
theorem put_defers (a : Act) (dst : Option Tmp) (v : Value) : (a.put dst v).defers = a.defers := by cases dst <;> rfl

/-! ### Triples -/
def liftQ (G : Gh) (Q : Exit → List D → Store → Prop) (e : Exit) (a : Act) (w : World) : Prop :=
  match e with
  | .panic _ | .outgrown => False
  | e => ∃ G' sl S, Ext G G' ∧ Sim S G' w ∧ RepL G' sl a.tmps.toList ∧ a.defers = [] ∧ Q e sl S

def AT (P : Program) (c : Code) (Q : Exit → List D → Store → Prop) (sl : List D) (S : Store) : Prop :=
  ∀ G w a, Sim S G w → RepL G sl a.tmps.toList → a.defers = [] → c.wp P (liftQ G Q) a w

def AOps (P : Program) (ops : Array Oper) (Q : Exit → List D → Store → Prop) (l : List Nat) (sl : List D) (S : Store) : Prop :=
  ∀ G w a, Sim S G w → RepL G sl a.tmps.toList → a.defers = [] → wpOps P ops (liftQ G Q) l a w

theorem liftQ_ext {G G' : Gh} (h : Ext G G') {Q : Exit → List D → Store → Prop} {e : Exit} {a : Act} {w : World} (x : liftQ G' Q e a w) : liftQ G Q e a w := by
  cases e <;> simp only [liftQ] at *
  all_goals
    obtain ⟨G2, sl, S, h1, h2⟩ := x
    exact ⟨G2, sl, S, h.trans h1, h2⟩

theorem liftQ_mono {G : Gh} {Q Q' : Exit → List D → Store → Prop} (h : ∀ e sl S, Q e sl S → Q' e sl S) {e : Exit} {a : Act} {w : World} (x : liftQ G Q e a w) : liftQ G Q' e a w := by
  cases e <;> simp only [liftQ] at *
  all_goals
    obtain ⟨G2, sl, S, h1, h2, h3, h4, h5⟩ := x
    exact ⟨G2, sl, S, h1, h2, h3, h4, h _ _ _ h5⟩

theorem liftQ_mk {G : Gh} {Q : Exit → List D → Store → Prop} {e : Exit} {a : Act} {w : World} {sl : List D} {S : Store} (hs : Sim S G w) (hr : RepL G sl a.tmps.toList) (hd : a.defers = [])
    (hp : match e with | .panic _ | .outgrown => False | _ => True) (hq : Q e sl S) : liftQ G Q e a w := by
  cases e <;> simp only [liftQ] at * <;> exact ⟨G, sl, S, Ext.refl G, hs, hr, hd, hq⟩

variable {P : Program} {Q : Exit → List D → Store → Prop} {sl : List D} {S : Store}

theorem AT.mono {c : Code} {Q' : Exit → List D → Store → Prop} (h : AT P c Q sl S) (hq : ∀ e sl S, Q e sl S → Q' e sl S) : AT P c Q' sl S :=
  fun G w a hs hr hd => wp_mono (h G w a hs hr hd) fun _ _ _ x => liftQ_mono hq x

theorem AT_skip (h : Q .normal sl S) : AT P .skip Q sl S := fun _ _ _ hs hr hd => wp_skip (liftQ_mk hs hr hd trivial h)
theorem AT_label {l : Nat} (h : Q .normal sl S) : AT P (.label l) Q sl S := fun _ _ _ hs hr hd => wp_label (liftQ_mk hs hr hd trivial h)
theorem AT_exit {id : Nat} (h : Q (.exit id) sl S) : AT P (.exit id) Q sl S := fun _ _ _ hs hr hd => wp_exit (liftQ_mk hs hr hd trivial h)
theorem AT_ret (h : Q .ret sl S) : AT P .ret Q sl S := fun _ _ _ hs hr hd => wp_ret (liftQ_mk hs hr hd trivial h)

def athen (next : List D → Store → Prop) (Q : Exit → List D → Store → Prop) : Exit → List D → Store → Prop
  | .normal, sl, S => next sl S
  | e, sl, S => Q e sl S

def ablock (id : Nat) (Q : Exit → List D → Store → Prop) : Exit → List D → Store → Prop
  | .exit id', sl, S => if id' = id then Q .normal sl S else Q (.exit id') sl S
  | e, sl, S => Q e sl S

theorem AT_seq {x y : Code} (h : AT P x (athen (fun sl S => AT P y Q sl S) Q) sl S) : AT P (.seq x y) Q sl S := by
  intro G w a hs hr hd
  refine wp_seq (wp_mono (h G w a hs hr hd) ?_)
  intro e a w hq
  cases e <;> simp only [liftQ, Exit.then] at *
  case normal =>
    obtain ⟨G2, sl2, S2, h1, h2, h3, h4, h5⟩ := hq
    exact wp_mono (h5 G2 w a h2 h3 h4) fun _ _ _ x => liftQ_ext h1 x
  all_goals exact hq

/-- What follows stays behind a name. -/
theorem AT_seq_k {x y : Code} (h : ∀ K : List D → Store → Prop, (∀ sl S, AT P y Q sl S → K sl S) → AT P x (athen K Q) sl S) : AT P (.seq x y) Q sl S :=
  AT_seq (h _ fun _ _ h => h)

/-- A cut: behind x it is so. -/
theorem AT_cut {x y : Code} (M : List D → Store → Prop) (h : AT P x (athen M Q) sl S) (h2 : ∀ sl S, M sl S → AT P y Q sl S) : AT P (.seq x y) Q sl S :=
  AT_seq (h.mono fun e sl S hq => by cases e <;> first | exact h2 _ _ hq | exact hq)

theorem AT_block {id : Nat} {c : Code} (h : AT P c (ablock id Q) sl S) : AT P (.block id c) Q sl S := by
  intro G w a hs hr hd
  refine wp_block (wp_mono (h G w a hs hr hd) ?_)
  intro e a w hq
  cases e with
  | exit id' =>
    simp only [liftQ, Exit.inBlock, ablock] at *
    by_cases hid : id' = id
    · simp only [hid, if_true] at *; exact hq
    · simp only [hid, if_false] at *; exact hq
  | _ => first | exact hq | exact hq.elim

theorem AT_cond {c : Operand} {x y : Code} {t : Bool} (hc : aval sl c = .lit (.bool t)) (h1 : t = true → AT P x Q sl S) (h2 : t = false → AT P y Q sl S) : AT P (.cond c x y) Q sl S := by
  intro G w a hs hr hd
  have := aval_rep hr c
  rw [hc] at this
  simp only [Rep] at this
  refine wp_cond this ?_
  cases t
  · exact h2 rfl G w a hs hr hd
  · exact h1 rfl G w a hs hr hd
theorem AT_cond_t {c : Operand} {x y : Code} (hc : aval sl c = .lit (.bool true)) (h : AT P x Q sl S) : AT P (.cond c x y) Q sl S := AT_cond hc (fun _ => h) (fun h => by cases h)
theorem AT_cond_f {c : Operand} {x y : Code} (hc : aval sl c = .lit (.bool false)) (h : AT P y Q sl S) : AT P (.cond c x y) Q sl S := AT_cond hc (fun h => by cases h) (fun _ => h)

/-- Rounds of a loop. -/
def ARounds (P : Program) (c : Code) (Q : Exit → List D → Store → Prop) : Nat → List D → Store → Prop
  | 0, _, _ => False
  | n + 1, sl, S => AT P c (athen (ARounds P c Q n) Q) sl S

theorem ARounds.wp {c : Code} : ∀ (n : Nat) (sl : List D) (S : Store), ARounds P c Q n sl S →
    ∀ G w a, Sim S G w → RepL G sl a.tmps.toList → a.defers = [] → ∀ G0, Ext G0 G → Code.rounds P c (liftQ G0 Q) n a w
  | 0, _, _, h => h.elim
  | n + 1, sl, S, h => by
    intro G w a hs hr hd G0 hG
    rw [rounds_succ]
    refine wp_mono (h G w a hs hr hd) ?_
    intro e a w hq
    cases e <;> simp only [liftQ, Exit.then] at *
    case normal =>
      obtain ⟨G2, sl2, S2, h1, h2, h3, h4, h5⟩ := hq
      exact ARounds.wp n sl2 S2 h5 G2 w a h2 h3 h4 G0 (hG.trans h1)
    all_goals first
      | exact hq
      | (obtain ⟨G2, sl2, S2, h1, h2⟩ := hq; exact ⟨G2, sl2, S2, hG.trans h1, h2⟩)

theorem AT_loop {c : Code} (n : Nat) (h : ARounds P c Q n sl S) : AT P (.loop c) Q sl S :=
  fun G w a hs hr hd => wp_loop_rounds n (ARounds.wp n sl S h G w a hs hr hd G (Ext.refl G))

/-- One round more. -/
def ALoop (P : Program) (c : Code) (Q : Exit → List D → Store → Prop) (sl : List D) (S : Store) : Prop := ∃ n, ARounds P c Q n sl S
theorem AT_loop' {c : Code} (h : ALoop P c Q sl S) : AT P (.loop c) Q sl S := let ⟨n, h⟩ := h; AT_loop n h

/-- Weaker data. -/
def D.le (d d' : D) : Prop := ∀ G v, Rep G d v → Rep G d' v
theorem D.le.refl (d : D) : d.le d := fun _ _ h => h
theorem D.le_any (d : D) : d.le .any := fun _ _ _ => by simp [Rep]
inductive LeL : List D → List D → Prop
  | nil : LeL [] []
  | cons {d d' : D} {ds ds' : List D} : d.le d' → LeL ds ds' → LeL (d :: ds) (d' :: ds')
theorem LeL.refl : ∀ l : List D, LeL l l
  | [] => .nil
  | d :: l => .cons (D.le.refl d) (LeL.refl l)
theorem LeL.rep {G : Gh} : ∀ {l l' : List D} {vs : List Value}, LeL l l' → RepL G l vs → RepL G l' vs
  | _, _, vs, .nil, h => h
  | _, _, vs, .cons h1 h2, h => by
    simp only [RepL] at *
    obtain ⟨x, r, rfl, h3, h4⟩ := h
    exact ⟨x, r, rfl, h1 _ _ h3, h2.rep h4⟩
theorem AT_weaken {c : Code} {sl' : List D} (h : LeL sl sl') (k : AT P c Q sl' S) : AT P c Q sl S := fun G w a hs hr hd => k G w a hs (h.rep hr) hd
theorem AT_eq {c : Code} {sl' : List D} (h : sl = sl') (k : AT P c Q sl' S) : AT P c Q sl S := h ▸ k

/-- A store that says less. -/
structure Store.le (S S' : Store) : Prop where
  ob : ∀ k o, S'.ob k = some o → S.ob k = some o
  tk : ∀ k o, S'.tk k = some o → S.tk k = some o
theorem Store.le.refl (S : Store) : S.le S := ⟨fun _ _ h => h, fun _ _ h => h⟩
theorem Store.le.trans {A B C : Store} (h : A.le B) (k : B.le C) : A.le C := ⟨fun _ _ x => h.ob _ _ (k.ob _ _ x), fun _ _ x => h.tk _ _ (k.tk _ _ x)⟩
theorem Sim.le {S S' : Store} {G : Gh} {w : World} (h : S.le S') (s : Sim S G w) : Sim S' G w where
  below := s.below
  im := s.im
  obj := fun k o x => s.obj k o (h.ob _ _ x)
  tok := fun t n sz x => s.tok t n sz (h.tk _ _ x)
  fresh := fun k hk => by
    obtain ⟨h1, h2, h3, h4⟩ := s.fresh k hk
    refine ⟨h1, ?_, ?_, h4⟩
    · cases hx : S'.ob k with
      | none => rfl
      | some o => have := h.ob _ _ hx; rw [h2] at this; cases this
    · cases hx : S'.tk k with
      | none => rfl
      | some o => have := h.tk _ _ hx; rw [h3] at this; cases this
  owned := s.owned
theorem AT_store {c : Code} {S' : Store} (h : S.le S') (k : AT P c Q sl S') : AT P c Q sl S := fun G w a hs hr hd => k G w a (hs.le h) hr hd

/-! ### Regions and calls -/
theorem AT_region {id : Nat} {ops : Array Oper} (h : AOps P ops Q (List.range ops.size) sl S) : AT P (.region id ops false) Q sl S :=
  fun G w a hs hr hd => wp_region (h G w a hs hr hd)

theorem AOps_nil {ops : Array Oper} (h : Q .normal sl S) : AOps P ops Q [] sl S := fun _ _ _ hs hr hd => liftQ_mk hs hr hd trivial h
theorem AOps_weaken {ops : Array Oper} {l : List Nat} {sl' : List D} (h : LeL sl sl') (k : AOps P ops Q l sl' S) : AOps P ops Q l sl S := fun G w a hs hr hd => k G w a hs (h.rep hr) hd
theorem AOps_eq {ops : Array Oper} {l : List Nat} {sl' : List D} (h : sl = sl') (k : AOps P ops Q l sl' S) : AOps P ops Q l sl S := h ▸ k
theorem AOps_store {ops : Array Oper} {l : List Nat} {S' : Store} (h : S.le S') (k : AOps P ops Q l sl S') : AOps P ops Q l sl S := fun G w a hs hr hd => k G w a (hs.le h) hr hd

def ACalls (P : Program) (f : FuncId) (args : List D) (S : Store) (R : D → Store → Prop) : Prop :=
  ∀ G w (vs : Array Value), Sim S G w → RepL G args vs.toList →
    Calls P f vs w fun e w' => ∃ v r S' G', e = .returned v ∧ Ext G G' ∧ Sim S' G' w' ∧ Rep G' r v ∧ R r S'

theorem ACalls.mono {f : FuncId} {args : List D} {R R' : D → Store → Prop} (h : ACalls P f args S R) (hr : ∀ r S, R r S → R' r S) : ACalls P f args S R' :=
  fun G w vs hs ha => (h G w vs hs ha).mono fun _ _ ⟨v, r, S', G', h1, h2, h3, h4, h5⟩ => ⟨v, r, S', G', h1, h2, h3, h4, hr _ _ h5⟩
theorem ACalls.args {f : FuncId} {args args' : List D} {R : D → Store → Prop} (hl : LeL args args') (h : ACalls P f args' S R) : ACalls P f args S R :=
  fun G w vs hs ha => h G w vs hs (hl.rep ha)
theorem ACalls.store {f : FuncId} {args : List D} {S' : Store} {R : D → Store → Prop} (hl : S.le S') (h : ACalls P f args S' R) : ACalls P f args S R :=
  fun G w vs hs ha => h G w vs (hs.le hl) ha

end Go.Proofs.Ytfaojkajlpojlaa.Abs
