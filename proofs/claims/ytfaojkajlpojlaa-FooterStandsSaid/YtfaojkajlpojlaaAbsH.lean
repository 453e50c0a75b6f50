/- Appends. -/
import Derived.Test.YtfaojkajlpojlaaAbsG
namespace Go.Proofs.Ytfaojkajlpojlaa.Abs
open Go Go.RowKit

variable {P : Program} {S : Store} {G : Gh} {w : World}

theorem heap_setCell_block (w : World) (b o : Nat) (v : Value) {cs : Array Value} {E : TypeId} {fr : Nat × Nat} (h : w.heap[b]? = some (.cells cs E fr)) :
    (w.setCell ⟨b, o, none⟩ v).heap[b]? = some (.cells (cs.setIfInBounds o v) E fr) := by
  simp [World.setCell, Array.getElem?_modify, h]
theorem heap_setCell_far (w : World) (a : Addr) (v : Value) {k : Nat} (h : k ≠ a.block) : (w.setCell a v).heap[k]? = w.heap[k]? := by
  simp only [World.setCell, Array.getElem?_modify]
  rw [if_neg (by omega)]
theorem heap_setCells_block (b : Nat) : ∀ (vs : List Value) (o : Nat) (w : World) {cs : Array Value} {E : TypeId} {fr : Nat × Nat}, w.heap[b]? = some (.cells cs E fr) →
    ∃ cs' : Array Value, (w.setCells b o vs).heap[b]? = some (.cells cs' E fr) ∧ cs'.size = cs.size
  | [], _, _, cs, _, _, h => ⟨cs, h, rfl⟩
  | v :: vs, o, w, cs, _, _, h => by
    obtain ⟨cs', h1, h2⟩ := heap_setCells_block b vs (o + 1) (w.setCell ⟨b, o, none⟩ v) (heap_setCell_block w b o v h)
    exact ⟨cs', h1, by rw [h2]; simp⟩
theorem heap_setCells_far (b : Nat) : ∀ (vs : List Value) (o : Nat) (w : World) {k : Nat}, k ≠ b → (w.setCells b o vs).heap[k]? = w.heap[k]?
  | [], _, _, _, _ => rfl
  | v :: vs, o, w, k, h => by rw [World.setCells, heap_setCells_far b vs _ _ h, heap_setCell_far w _ v h]
theorem size_setCells (b : Nat) : ∀ (vs : List Value) (o : Nat) (w : World), (w.setCells b o vs).heap.size = w.heap.size
  | [], _, _ => rfl
  | v :: vs, o, w => by rw [World.setCells, size_setCells b vs, World.size_setCell]
theorem Below.setCells {B b : Nat} (hb : B ≤ b) : ∀ (vs : List Value) (o : Nat) {a w : World}, Below B a w → Below B a (w.setCells b o vs)
  | [], _, _, _, h => h
  | v :: vs, o, _, w, h => Below.setCells hb vs (o + 1) (h.setCell (p := ⟨b, o, none⟩) hb v)

/-- What an append into the room behind a row does. -/
theorem Sim.append_in (h : Sim S G w) {t n sz c k : Nat} {a : Addr} {news : List Value} (ht : S.tk t = some (n, sz)) (hth : G.th t n = some (some a, c)) (hk : 0 < k) (hc : n + k ≤ c) (hl : news.length = k * sz) :
    ∃ G', Ext G G' ∧ Sim (S.setTk t (some (n + k, sz))) G' (w.setCells a.block (a.off + n * sz) news) ∧ G'.th t (n + k) = some (some a, c) ∧
      (∀ (i : Nat) (v : Value), news[i]? = some v → G'.im a.block (a.off + n * sz + i) = some v) ∧ a.spot = none ∧
      (∀ j, j < news.length → (w.cell? ⟨a.block, a.off + n * sz + j, none⟩).isSome = true) ∧ (∀ j, j < news.length → w.frozen? ⟨a.block, a.off + n * sz + j, none⟩ = false) := by
  obtain ⟨A, c', h1, h2, h3, h4⟩ := h.tok t n sz ht
  rw [hth] at h1
  cases h1
  obtain ⟨a', h5, h6, h7, h8, ⟨cs, E, fr, h9, h10, h11⟩, h12⟩ := h3 (by omega)
  cases h5
  have hroom : a.off + n * sz + news.length ≤ cs.size := by
    have := Nat.mul_le_mul_right sz hc
    rw [Nat.add_mul] at this
    omega
  have hcell : ∀ j, j < news.length → (w.cell? ⟨a.block, a.off + n * sz + j, none⟩).isSome = true := fun j hj => by
    simp only [World.cell?, h9]
    simp
    omega
  have hfz : ∀ j, j < news.length → w.frozen? ⟨a.block, a.off + n * sz + j, none⟩ = false := fun j hj => by
    have := h11 (a.off + n * sz + j) (by omega)
    simp only [World.frozen?, h9]
    simpa using this
  have he : Ext G { G with im := fun b o => if b = a.block ∧ a.off + n * sz ≤ o then news[o - (a.off + n * sz)]? else G.im b o, th := fun t' m => if t' = t ∧ m = n + k then some (some a, c) else G.th t' m } :=
    ⟨rfl, fun b o v x => by
      simp only
      split
      · rename_i hb; obtain ⟨rfl, ho⟩ := hb; rw [h12 o ho] at x; cases x
      · exact x, fun _ _ x => x, fun t' m x y => by
      simp only
      split
      · rename_i hb; obtain ⟨rfl, rfl⟩ := hb; rw [h4 (n + k) (by omega)] at y; cases y
      · exact y, Nat.le_refl _⟩
  refine ⟨_, he, ⟨Below.setCells h8 _ _ h.below, ?_, ?_, ?_, ?_, ?_⟩, by simp, ?_, h6, hcell, hfz⟩
  · intro b o v x
    simp only at x
    split at x
    · rename_i hb
      obtain ⟨rfl, ho⟩ := hb
      have hlt : o - (a.off + n * sz) < news.length := by
        rcases Nat.lt_or_ge (o - (a.off + n * sz)) news.length with h' | h'
        · exact h'
        · simp [List.getElem?_eq_none h'] at x
      have := World.cell?_setCells_in a.block news (a.off + n * sz) w hcell (o - (a.off + n * sz)) hlt
      rw [show a.off + n * sz + (o - (a.off + n * sz)) = o by omega] at this
      rw [this]
      rw [List.getElem?_eq_getElem hlt] at x
      exact x
    · rename_i hb
      rw [World.cell?_setCells_out a.block news _ w ⟨b, o, none⟩ (fun e1 _ => ?_)]
      · exact h.im b o v x
      · simp only at e1
        subst e1
        simp at hb
        left
        omega
  · intro k' o x
    obtain ⟨b, g1, g2, g3, g4, g5⟩ := h.obj k' o x
    have hne : b ≠ a.block := fun e => by subst e; rw [h7] at g2; cases g2
    refine ⟨b, g1, g2, g3, fun i => ?_, g5.kept he (heap_setCells_far a.block _ _ _ hne)⟩
    simp only
    rw [if_neg (by intro x; exact hne x.1)]
    exact g4 i
  · intro t' m sz' x
    simp only [Store.tk_setTk] at x
    split at x
    · rename_i e
      subst e
      cases x
      obtain ⟨cs', i1, i2⟩ := heap_setCells_block a.block news (a.off + n * sz) w h9
      refine ⟨some a, c, by simp, hc, fun hn => ⟨a, rfl, h6, h7, h8, ⟨cs', E, fr, i1, by omega, fun o ho => h11 o (by omega)⟩, fun o ho => ?_⟩, fun m hm => ?_⟩
      · simp only
        split
        · rw [List.getElem?_eq_none]
          rw [Nat.add_mul] at ho
          omega
        · exact h12 o (by rw [Nat.add_mul] at ho; omega)
      · simp only
        rw [if_neg (by omega)]
        exact h4 m (by omega)
    · rename_i e
      obtain ⟨A2, c2, g1, g2, g3, g4⟩ := h.tok t' m sz' x
      refine ⟨A2, c2, by simp only; rw [if_neg (by intro x; exact e x.1)]; exact g1, g2, fun hn => ?_, fun m' hm' => by simp only; rw [if_neg (by intro x; exact e x.1)]; exact g4 m' hm'⟩
      obtain ⟨a2, j5, j6, j7, j8, ⟨cs2, E2, fr2, j9, j10, j11⟩, j12⟩ := g3 hn
      have hne : a2.block ≠ a.block := fun x => by rw [x] at j7; rw [h7] at j7; cases j7; exact e rfl
      refine ⟨a2, j5, j6, j7, j8, ⟨cs2, E2, fr2, by rw [heap_setCells_far a.block _ _ _ hne]; exact j9, j10, j11⟩, fun o ho => ?_⟩
      simp only
      rw [if_neg (by intro x; exact hne x.1)]
      exact j12 o ho
  · intro k' hk'
    obtain ⟨g1, g2, g3, g4⟩ := h.fresh k' hk'
    have hne : k' ≠ t := fun e => by subst e; rw [g3] at ht; cases ht
    refine ⟨g1, g2, by simp [hne, g3], fun m => by simp only; rw [if_neg (by intro x; exact hne x.1)]; exact g4 m⟩
  · intro b hb
    rw [size_setCells] at hb
    exact h.owned b hb
  · intro i v hv
    show (if a.block = a.block ∧ a.off + n * sz ≤ a.off + n * sz + i then news[a.off + n * sz + i - (a.off + n * sz)]? else _) = some v
    rw [if_pos ⟨rfl, by omega⟩, show a.off + n * sz + i - (a.off + n * sz) = i by omega]
    exact hv

/-- What an append into a new row does. -/
theorem Sim.append_new (h : Sim S G w) {t n m sz c : Nat} {vs rest : List Value} {T : TypeId} (ht : S.tk t = some (n, sz)) (hnm : n < m) (hl : vs.length = m * sz) (hc : m ≤ c) (hr : vs.length + rest.length = c * sz) (hcm : c ≤ 9223372036854775807) :
    ∃ G', Ext G G' ∧ Sim (S.setTk t (some (m, sz))) G' (w.alloc (.cells (vs ++ rest).toArray T)) ∧ G'.th t m = some (some ⟨w.heap.size, 0, none⟩, c) ∧ G'.has ⟨w.heap.size, 0, none⟩ vs := by
  obtain ⟨A, c', h1, h2, h3, h4⟩ := h.tok t n sz ht
  obtain ⟨e1, s1, k1⟩ := h.alloc_im vs rest T
  have he : Ext (G.addIm w.heap.size fun o => vs[o]?) { (G.addIm w.heap.size fun o => vs[o]?) with th := fun t' m' => if t' = t ∧ m' = m then some (some ⟨w.heap.size, 0, none⟩, c) else G.th t' m', own := fun b => if b = w.heap.size then some (.inr t) else G.own b } :=
    ⟨rfl, fun _ _ _ x => x, fun _ _ x => x, fun t' m' x y => by
      have y : G.th t' m' = some x := y
      simp only
      split
      · rename_i hb; obtain ⟨rfl, rfl⟩ := hb; rw [h4 m' hnm] at y; cases y
      · exact y, Nat.le_refl _⟩
  refine ⟨_, e1.trans he, ⟨s1.below, s1.im, ?_, ?_, ?_, ?_⟩, by simp, fun i v hv => k1 i v hv⟩
  · intro k o x
    obtain ⟨b, g1, g2, g3, g4, g5⟩ := h.obj k o x
    have hlt := g5.lt
    obtain ⟨b', i1, i2, i3, i4, i5⟩ := s1.obj k o x
    have : b' = b := by have : G.bl k = some b' := i1; rw [g1] at this; cases this; rfl
    subst this
    refine ⟨b', i1, ?_, i3, i4, i5.kept he rfl⟩
    simp only
    rw [if_neg (by omega)]
    exact g2
  · intro t' m' sz' x
    simp only [Store.tk_setTk] at x
    split at x
    · rename_i e
      subst e
      cases x
      refine ⟨some ⟨w.heap.size, 0, none⟩, c, by simp, hc, fun hn => ⟨_, rfl, rfl, by simp, h.size_ge, ⟨_, T, (0, 0), heap_alloc_at w _, by simp; omega, fun o _ => by simp⟩, fun o ho => ?_⟩, fun m2 hm => ?_⟩
      · simp only [Gh.addIm, if_true]
        rw [List.getElem?_eq_none]
        simp at ho
        omega
      · simp only
        rw [if_neg (by omega)]
        exact h4 m2 (by omega)
    · rename_i e
      obtain ⟨A2, c2, g1, g2, g3, g4⟩ := s1.tok t' m' sz' x
      obtain ⟨A3, c3, i1, i2, i3, i4⟩ := h.tok t' m' sz' x
      refine ⟨A2, c2, by simp only; rw [if_neg (by intro x; exact e x.1)]; exact g1, g2, fun hn => ?_, fun m2 hm => by simp only; rw [if_neg (by intro x; exact e x.1)]; exact g4 m2 hm⟩
      obtain ⟨a, j5, j6, j7, j8, ⟨cs, E, fr, j9, j10, j11⟩, j12⟩ := g3 hn
      have e2 : A3 = A2 ∧ c3 = c2 := by
        have g1 : G.th t' m' = some (A2, c2) := g1
        rw [g1] at i1
        cases i1
        exact ⟨rfl, rfl⟩
      obtain ⟨rfl, rfl⟩ := e2
      obtain ⟨a2, q5, q6, q7, q8, ⟨cs2, E2, fr2, q9, _⟩, _⟩ := i3 hn
      have : a2 = a := by rw [j5] at q5; cases q5; rfl
      subst this
      have hlt := heap_lt_of_some q9
      refine ⟨a2, j5, j6, ?_, j8, ⟨cs, E, fr, j9, j10, j11⟩, j12⟩
      simp only
      rw [if_neg (by omega)]
      exact q7
  · intro k hk
    obtain ⟨g1, g2, g3, g4⟩ := h.fresh k hk
    have hne : k ≠ t := fun e => by subst e; rw [g3] at ht; cases ht
    refine ⟨g1, g2, by simp [hne, g3], fun m2 => by simp only; rw [if_neg (by intro x; exact hne x.1)]; exact g4 m2⟩
  · intro b hb
    simp at hb
    simp only
    rw [if_neg (by omega)]
    exact h.owned b (by omega)

/-! ### The builtin -/
/-- Of an element's type: its cells and bytes. -/
def appOk (P : Program) (e : TypeId) (sz bytes : Nat) : Bool :=
  match P.info? e with
  | some i => i.size == sz && i.bytes == bytes && decide (0 < sz) && (match i.zero with | some z => z.cells.size == sz && z.cells.all (·.oneCell') | none => false)
  | none => false

theorem appOk_spec {e : TypeId} {sz bytes : Nat} (h : appOk P e sz bytes = true) : ∃ i z, P.info? e = some i ∧ i.size = sz ∧ i.bytes = bytes ∧ 0 < sz ∧ i.zero = some z ∧ z.cells.size = sz ∧ One z.cells.toList := by
  unfold appOk at h
  cases hi : P.info? e with
  | none => simp [hi] at h
  | some i =>
    cases hz : i.zero with
    | none => simp [hi, hz] at h
    | some z =>
      simp only [hi, hz, Bool.and_eq_true, beq_iff_eq, decide_eq_true_eq] at h
      obtain ⟨⟨⟨h1, h2⟩, h3⟩, h4, h5⟩ := h
      exact ⟨i, z, rfl, h1, h2, h3, hz, h4, fun v hv => Array.all_eq_true'.1 h5 v (by simpa using hv)⟩

/-- What is appended: its cells, as they are read. -/
def Src (P : Program) (w : World) (t : TypeId) (sz m : Nat) (x : Value) (news : List Value) : Prop :=
  (Builtin.lenOf x).run P w = .ok m w ∧ (∀ n, (Builtin.firstCells sz m x).run P (w.drewN n) = .ok news.toArray (w.drewN n)) ∧ news.length = m * sz ∧ One news ∧ ((∃ e, P.underlying t = some (.slice e)) ∨ P.underlying t = some .string)

def storeAt (A : Option Addr) (o : Nat) (news : List Value) : Sem Unit :=
  match A with
  | some a => storeCells (a.add o) news
  | none => pure ()

theorem run_append {t t2 ty e : TypeId} {sz bytes m n c : Nat} {A : Option Addr} {x : Value} {news : List Value} (ht : P.underlying t = some (.slice e)) (hok : appOk P e sz bytes = true)
    (hx : Src P w t2 sz m x news) (hfit : (n + m) * bytes ≤ 140737488355328) (h63 : n + m ≤ 9223372036854775807) (hnc : n ≤ c) (olds : List Value)
    (holds : ∀ k, (Builtin.firstCells sz n (.slice A n c)).run P (w.drewN k) = .ok olds.toArray (w.drewN k)) :
    (n + m ≤ c → (Builtin.append_ #[t, t2] ty #[.slice A n c, x]).run P w = ((storeAt A (n * sz) news).run P w).andThen fun _ w' => .ok (.slice A (n + m) c) w') ∧
    (c < n + m → ∃ c' rest, (n + m ≤ c' ∧ c' ≤ 9223372036854775807) ∧ One rest ∧ rest.length = (c' - (n + m)) * sz ∧ (Builtin.append_ #[t, t2] ty #[.slice A n c, x]).run P w = .ok (.slice (some ⟨w.heap.size, 0, none⟩) (n + m) c') (w.drew.alloc (.cells (olds ++ news ++ rest).toArray e))) := by
  obtain ⟨i, z, h1, h2, h3, h4, h5, h6, h7⟩ := appOk_spec hok
  obtain ⟨x1, x2, x3, x4, x5⟩ := hx
  have x20 := x2 0
  have x21 := x2 1
  have o1 := holds 1
  simp only [World.drewN_zero] at x20
  have hd : w.drewN 1 = w.drew := rfl
  rw [hd] at x21 o1
  constructor
  · intro hroom
    rcases x5 with ⟨e2, ht2⟩ | ht2 <;> cases A <;> simp [Builtin.append_, storeAt, run_underlying ht, run_underlying ht2, sizeOf, typeInfo, h1, h2, x1, hroom, x20]
  · intro hgrow
    have hn : ¬ (n + m ≤ c) := by omega
    have hfits := growslice_fits (need := n + m) (old := c) hgrow hfit
    have h48' : ¬ (281474976710656 < Builtin.nextslicecap (n + m) c * i.bytes) := by rw [h3]; omega
    have hge := grownCap_ge w (n + m) c e
    refine ⟨grownCap w (n + m) c e, (Builtin.zeroCells z.cells (grownCap w (n + m) c e - (n + m))).toList, ⟨hge, grownCap_le_maxLen w (n + m) c e (by simpa [maxLen] using h63)⟩, ?_, ?_, ?_⟩
    · intro v hv
      simp only [Builtin.zeroCells, Array.toList_map, List.mem_map] at hv
      obtain ⟨j, _, rfl⟩ := hv
      have hj : j % z.cells.size < z.cells.size := Nat.mod_lt _ (by omega)
      rw [getElem!_pos z.cells _ hj]
      exact h7 _ (by simp)
    · simp [size_zeroCells, h6]
    · have hmax : IntKind.i64.max = 9223372036854775807 := rfl
      have hbb : ¬ ((9223372036854775807 : Int) < (n : Int) + (m : Int)) := by omega
      rcases x5 with ⟨e2, ht2⟩ | ht2 <;> simp [Builtin.append_, run_underlying ht, run_underlying ht2, sizeOf, typeInfo, zeroValue, h1, h2, h5, x1, hn, hbb, h48', Question.forced, o1, x21, newRow, grownCap] <;>
        (congr 2; apply Array.ext'; simp)

theorem firstCells_drewN (hs : Sim S G w) {sz n c : Nat} {A : Option Addr} {es : List (List D)} {tl : Option Nat} (hr : Rep G (.sl sz es tl) (.slice A n c)) :
    ∃ olds, (∀ k, (Builtin.firstCells sz n (.slice A n c)).run P (w.drewN k) = .ok olds.toArray (w.drewN k)) ∧ RepLL G sz es olds ∧ (es ≠ [] → ∃ a, A = some a ∧ a.spot = none ∧ G.has a olds) ∧ n = es.length ∧ n ≤ c := by
  simp only [Rep] at hr
  obtain ⟨A', c', h1, h2, h3, h4⟩ := hr
  injection h1 with e1 e2 e3
  subst e1 e2 e3
  rcases h4 with h4 | ⟨a, vs, h5, h6, h7, h8⟩
  · subst h4
    refine ⟨[], fun k => ?_, by simp [RepLL], fun h => absurd rfl h, rfl, h2⟩
    cases A <;> simp [Builtin.firstCells, loadCells, loadCellsFrom]
  · subst h5
    refine ⟨vs, fun k => ?_, h7, fun _ => ⟨a, rfl, h6, h8⟩, rfl, h2⟩
    have hl := h7.length
    have := loadCells_run (P := P) (w := w.drewN k) (vs := vs) h6 (es.length * sz) (by omega) (fun i v hv => by rw [World.cell?_drewN]; exact hs.im _ _ _ (h8 i v hv))
    rw [← hl, List.take_length, hl] at this
    simp only [Builtin.firstCells]
    exact this

theorem One_of_RepLL {sz : Nat} : ∀ {es : List (List D)} {vs : List Value}, RepLL G sz es vs → One vs
  | [], vs, h => by simp only [RepLL] at h; subst h; exact One.nil
  | e :: es, vs, h => by
    simp only [RepLL] at h
    obtain ⟨x, r, rfl, h2, h3, h4⟩ := h
    exact h3.2.append (One_of_RepLL h4)

/-- A source that is a row. -/
theorem Src_of_sl (hs : Sim S G w) {t2 e2 : TypeId} {sz : Nat} {xs : List (List D)} {tl : Option Nat} {v : Value} (ht : P.underlying t2 = some (.slice e2)) (hr : Rep G (.sl sz xs tl) v) :
    ∃ news, Src P w t2 sz xs.length v news ∧ RepLL G sz xs news := by
  obtain ⟨A, c, rfl, h2⟩ := sl_val hr
  obtain ⟨news, h3, h4, -, -, -⟩ := firstCells_drewN (P := P) hs hr
  exact ⟨news, ⟨by simp [Builtin.lenOf], h3, h4.length, One_of_RepLL h4, .inl ⟨e2, ht⟩⟩, h4⟩

def bytesD (s : ByteArray) : List (List D) := s.data.toList.map fun b => [.lit (.int .u8 b.toNat)]
theorem RepLL_bytes : ∀ (l : List UInt8), RepLL G 1 (l.map fun b => [D.lit (.int .u8 b.toNat)]) (l.map fun b => Value.int .u8 b.toNat)
  | [] => by simp [RepLL]
  | b :: l => by
    simp only [List.map_cons, RepLL]
    refine ⟨[.int .u8 b.toNat], _, rfl, rfl, ⟨?_, ?_⟩, RepLL_bytes l⟩
    · simp only [RepL]; exact ⟨_, [], rfl, by simp only [Rep], rfl⟩
    · intro v hv; simp at hv; subst hv; rfl
theorem Src_of_str {t2 : TypeId} {s : ByteArray} (ht : P.underlying t2 = some .string) :
    ∃ news, Src P w t2 1 s.size (.string s) news ∧ RepLL G 1 (bytesD s) news := by
  have hr := RepLL_bytes (G := G) s.data.toList
  have hl : (s.data.toList.map fun b => Value.int .u8 b.toNat).length = s.size := by rw [List.length_map]; rfl
  refine ⟨_, ⟨by simp [Builtin.lenOf], fun n => ?_, by rw [hl]; omega, One_of_RepLL hr, .inr ht⟩, hr⟩
  simp only [Builtin.firstCells]
  have : s.extract 0 s.size = s := by simp
  rw [this]
  simp only [Sem.run_pure]
  congr 1
  apply Array.ext'
  simp

theorem storeCells_run {A : Option Addr} {n sz : Nat} {a : Addr} {news : List Value} (hA : A = some a) (hsp : a.spot = none) (h1 : One news)
    (hc : ∀ j, j < news.length → (w.cell? ⟨a.block, a.off + n * sz + j, none⟩).isSome = true) (hf : ∀ j, j < news.length → w.frozen? ⟨a.block, a.off + n * sz + j, none⟩ = false) :
    (storeAt A (n * sz) news).run P w = .ok () (w.setCells a.block (a.off + n * sz) news) := by
  subst hA
  simp only [storeAt]
  rw [addr_add _ _ hsp]
  have := run_storeCells_cells (P := P) a.block (a.off + n * sz) news 0 w (by simpa using hc) (by simpa using hf) h1
  simpa using this

/-- **An append.** -/
theorem append_core (hs : Sim S G w) {t t2 ty e : TypeId} {sz bytes tk : Nat} {es xs : List (List D)} {v x : Value} {news : List Value} (ht : P.underlying t = some (.slice e)) (hok : appOk P e sz bytes = true)
    (hr : Rep G (.sl sz es (some tk)) v) (htk : S.tk tk = some (es.length, sz)) (hx : Src P w t2 sz xs.length x news) (hn : RepLL G sz xs news)
    (hfit : (es.length + xs.length) * bytes ≤ 140737488355328) (h63 : es.length + xs.length ≤ 9223372036854775807) :
    ∃ v' w' G', (Builtin.append_ #[t, t2] ty #[v, x]).run P w = .ok v' w' ∧ Ext G G' ∧ Sim (S.setTk tk (some (es.length + xs.length, sz))) G' w' ∧ Rep G' (.sl sz (es ++ xs) (some tk)) v' := by
  obtain ⟨A, c, rfl, hnc⟩ := sl_val hr
  obtain ⟨olds, h1, h2, h3, -, -⟩ := firstCells_drewN (P := P) hs hr
  have hr0 := hr
  simp only [Rep] at hr
  obtain ⟨A', c', q1, q2, q3, q4⟩ := hr
  injection q1 with e1 e2 e3
  subst e1 e3
  have hth := q3 tk rfl
  obtain ⟨hA, hB⟩ := run_append (P := P) (w := w) (ty := ty) ht hok hx hfit h63 q2 olds h1
  obtain ⟨i, z, _, _, _, hsz0, _⟩ := appOk_spec hok
  by_cases hroom : es.length + xs.length ≤ c
  · by_cases hx0 : xs = []
    · subst hx0
      have hn0 : news = [] := by simpa [RepLL] using hn
      subst hn0
      refine ⟨.slice A es.length c, w, G, ?_, Ext.refl G, ?_, by simpa using hr0⟩
      · rw [hA hroom]
        cases A <;> simp [storeAt, storeCells]
      · have : S.setTk tk (some (es.length + 0, sz)) = S := by
          cases S with
          | mk ob tk' =>
            simp only [Store.setTk]
            congr 1
            funext j
            split
            · rename_i hj; subst hj; exact htk.symm
            · rfl
        rw [List.length_nil, this]; exact hs
    · have hpos : 0 < xs.length := List.length_pos_iff.2 hx0
      obtain ⟨A2, c2, g1, g2, g3, g4⟩ := hs.tok tk _ _ htk
      rw [hth] at g1
      cases g1
      obtain ⟨a, rfl, hT⟩ := g3 (by omega)
      obtain ⟨G', p1, p2, p3, p4, p5, p6, p7⟩ := hs.append_in htk hth hpos hroom (by rw [hn.length])
      have hrun := storeCells_run (P := P) (w := w) (A := some a) (n := es.length) (sz := sz) rfl p5 (One_of_RepLL hn) p6 p7
      refine ⟨.slice (some a) (es.length + xs.length) c, _, G', by rw [hA hroom, hrun]; rfl, p1, p2, ?_⟩
      simp only [Rep]
      refine ⟨some a, c, by simp, by simp; omega, fun t' ht' => by cases ht'; rw [List.length_append]; exact p3, .inr ⟨a, olds ++ news, rfl, p5, (h2.append hn).ext p1, ?_⟩⟩
      intro i u hu
      rw [List.getElem?_append] at hu
      have hol := h2.length
      split at hu
      · rename_i hi
        have : es ≠ [] := fun e => by subst e; simp at hol; simp [hol] at hi
        obtain ⟨a', e', _, hh⟩ := h3 this
        cases e'
        exact p1.im _ _ _ (hh i u hu)
      · rename_i hi
        have := p4 _ _ hu
        rw [hol] at this
        rw [show a.off + i = a.off + es.length * sz + (i - es.length * sz) by omega]
        exact this
  · obtain ⟨c', rest, r1, r2, r3, r4⟩ := hB (by omega)
    have hl : (olds ++ news).length = (es.length + xs.length) * sz := by rw [List.length_append, h2.length, hn.length, Nat.add_mul]
    obtain ⟨G', p1, p2, p3, p4⟩ := hs.drew.append_new (m := es.length + xs.length) (vs := olds ++ news) (rest := rest) (c := c') (T := e) htk (by omega) hl r1.1 (by
      rw [hl, r3, ← Nat.add_mul]; congr 1; omega) r1.2
    refine ⟨_, _, G', r4, p1, p2, ?_⟩
    simp only [Rep]
    refine ⟨_, c', by rw [List.length_append]; rfl, by rw [List.length_append]; exact r1.1, fun t' ht' => by cases ht'; rw [List.length_append]; exact p3, .inr ⟨_, olds ++ news, rfl, rfl, (h2.append hn).ext p1, p4⟩⟩

/-- An append to nothing. -/
theorem append_nil_core (hs : Sim S G w) {t t2 ty e : TypeId} {sz bytes : Nat} {xs : List (List D)} {x : Value} {news : List Value} (ht : P.underlying t = some (.slice e)) (hok : appOk P e sz bytes = true)
    (hx : Src P w t2 sz xs.length x news) (hn : RepLL G sz xs news) (hfit : xs.length * bytes ≤ 140737488355328) (h63 : xs.length ≤ 9223372036854775807) :
    ∃ v' w' G' tk, S.tk tk = none ∧ (Builtin.append_ #[t, t2] ty #[.slice none 0 0, x]).run P w = .ok v' w' ∧ Ext G G' ∧ Sim (S.setTk tk (some (xs.length, sz))) G' w' ∧ Rep G' (.sl sz xs (some tk)) v' := by
  obtain ⟨G1, e1, s1, h1, h2⟩ := hs.new_tk none 0 sz
  have hr : Rep G1 (.sl sz [] (some G.nx)) (.slice none 0 0) := by
    simp only [Rep]
    exact ⟨none, 0, rfl, Nat.le_refl _, fun t' ht' => by cases ht'; exact h1, .inl trivial⟩
  obtain ⟨v', w', G', p1, p2, p3, p4⟩ := append_core (ty := ty) (es := []) s1 ht hok hr (by simp) hx (hn.ext e1) (by simpa using hfit) (by simpa using h63)
  refine ⟨v', w', G', G.nx, h2, p1, e1.trans p2, ?_, by simpa using p4⟩
  have : (S.setTk G.nx (some (0, sz))).setTk G.nx (some (([] : List (List D)).length + xs.length, sz)) = S.setTk G.nx (some (xs.length, sz)) := by
    simp only [Store.setTk]
    congr 1
    funext j
    split <;> simp
  rw [this] at p3
  exact p3
end Go.Proofs.Ytfaojkajlpojlaa.Abs
