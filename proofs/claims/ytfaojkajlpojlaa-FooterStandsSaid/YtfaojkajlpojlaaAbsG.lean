/- How the ghost state follows what is made and written. -/
import Derived.Test.YtfaojkajlpojlaaAbsF
import Derived.Laws.IdiomCopy
import Derived.Laws.AppendOwn
import Derived.Laws.MakeOwn
namespace Go.Proofs.Ytfaojkajlpojlaa.Abs
open Go Go.RowKit

def Store.setOb (S : Store) (k : Nat) (o : Option Ob) : Store := { S with ob := fun j => if j = k then o else S.ob j }
def Store.setTk (S : Store) (t : Nat) (x : Option (Nat × Nat)) : Store := { S with tk := fun j => if j = t then x else S.tk j }
@[simp] theorem Store.ob_setOb (S : Store) (k : Nat) (o : Option Ob) (j : Nat) : (S.setOb k o).ob j = if j = k then o else S.ob j := rfl
@[simp] theorem Store.tk_setOb (S : Store) (k : Nat) (o : Option Ob) (j : Nat) : (S.setOb k o).tk j = S.tk j := rfl
@[simp] theorem Store.ob_setTk (S : Store) (k : Nat) (o : Option (Nat × Nat)) (j : Nat) : (S.setTk k o).ob j = S.ob j := rfl
@[simp] theorem Store.tk_setTk (S : Store) (k : Nat) (o : Option (Nat × Nat)) (j : Nat) : (S.setTk k o).tk j = if j = k then o else S.tk j := rfl

variable {S : Store} {G : Gh} {w : World}

theorem ObRep.kept {G G' : Gh} {w w' : World} {b : Nat} {o : Ob} (he : Ext G G') (hb : w'.heap[b]? = w.heap[b]?) (h : ObRep G w b o) : ObRep G' w' b o := by
  cases o with
  | cells T cs => obtain ⟨vs, h1, h2, h3⟩ := h; exact ⟨vs, by rw [hb]; exact h1, h2.ext he, h3⟩
  | map es c => obtain ⟨l, h1, h2⟩ := h; exact ⟨l, by rw [hb]; exact h1, RepE.ext he _ _ h2⟩

theorem heap_lt_of_some {w : World} {b : Nat} {o : Obj} (h : w.heap[b]? = some o) : b < w.heap.size := by
  rcases Nat.lt_or_ge b w.heap.size with h' | h'
  · exact h'
  · simp [Array.getElem?_eq_none h'] at h
theorem ObRep.lt {b : Nat} {o : Ob} (h : ObRep G w b o) : b < w.heap.size := by
  cases o with
  | cells T cs => obtain ⟨vs, h1, _⟩ := h; exact heap_lt_of_some h1
  | map es c => obtain ⟨l, h1, _⟩ := h; exact heap_lt_of_some h1

theorem heap_alloc_lt (w : World) (o : Obj) {k : Nat} (h : k < w.heap.size) : (w.alloc o).heap[k]? = w.heap[k]? := by
  show (w.heap.push o)[k]? = _
  rw [Array.getElem?_push, if_neg (by omega)]
theorem heap_alloc_at (w : World) (o : Obj) : (w.alloc o).heap[w.heap.size]? = some o := by
  show (w.heap.push o)[w.heap.size]? = _
  simp

theorem Sim.drew (h : Sim S G w) : Sim S G w.drew where
  below := h.below.drew
  im := fun b o v x => by rw [World.cell?_drew]; exact h.im b o v x
  obj := fun k o x => by
    obtain ⟨b, h1, h2, h3, h4, h5⟩ := h.obj k o x
    exact ⟨b, h1, h2, h3, h4, h5.kept (Ext.refl G) rfl⟩
  tok := fun t n sz x => h.tok t n sz x
  fresh := h.fresh
  owned := h.owned

def Gh.addIm (G : Gh) (b : Nat) (f : Nat → Option Value) : Gh := { G with im := fun b' o => if b' = b then f o else G.im b' o }

theorem Sim.size_ge (h : Sim S G w) : G.w0.heap.size ≤ w.heap.size := h.below.size

/-- A new block whose first cells cannot change. -/
theorem Sim.alloc_im (h : Sim S G w) (vs rest : List Value) (T : TypeId) :
    Ext G (G.addIm w.heap.size fun o => vs[o]?) ∧ Sim S (G.addIm w.heap.size fun o => vs[o]?) (w.alloc (.cells (vs ++ rest).toArray T)) ∧ (G.addIm w.heap.size fun o => vs[o]?).has ⟨w.heap.size, 0, none⟩ vs := by
  have he : Ext G (G.addIm w.heap.size fun o => vs[o]?) := ⟨rfl, fun b o v x => by
    simp only [Gh.addIm]
    split
    · rename_i hb; subst hb; rw [h.im_new (Nat.le_refl _)] at x; cases x
    · exact x, fun _ _ x => x, fun _ _ _ x => x, Nat.le_refl _⟩
  refine ⟨he, ⟨h.below.alloc h.size_ge _, ?_, ?_, ?_, h.fresh, ?_⟩, ?_⟩
  · intro b o v x
    simp only [Gh.addIm] at x
    split at x
    · rename_i hb
      subst hb
      rw [World.cell?_alloc_new]
      have hlt : o < vs.length := by
        rcases Nat.lt_or_ge o vs.length with h' | h'
        · exact h'
        · simp [List.getElem?_eq_none h'] at x
      simp [List.getElem?_append_left hlt, x]
    · rename_i hb
      rw [World.cell?_alloc_old _ _ _ hb]
      exact h.im b o v x
  · intro k o x
    obtain ⟨b, h1, h2, h3, h4, h5⟩ := h.obj k o x
    have hlt := h5.lt
    refine ⟨b, h1, h2, h3, fun i => ?_, h5.kept he (heap_alloc_lt w _ hlt)⟩
    simp only [Gh.addIm]
    rw [if_neg (by omega)]
    exact h4 i
  · intro t n sz x
    obtain ⟨A, c, h1, h2, h3, h4⟩ := h.tok t n sz x
    refine ⟨A, c, h1, h2, fun hn => ?_, h4⟩
    obtain ⟨a, h5, h6, h7, h8, ⟨cs, E, fr, h9, h10, h11⟩, h12⟩ := h3 hn
    have hlt := heap_lt_of_some h9
    refine ⟨a, h5, h6, h7, h8, ⟨cs, E, fr, by rw [heap_alloc_lt w _ hlt]; exact h9, h10, h11⟩, fun o ho => ?_⟩
    simp only [Gh.addIm]
    rw [if_neg (by omega)]
    exact h12 o ho
  · intro b hb
    simp at hb
    exact h.owned b (by omega)
  · intro i v hv
    simp [Gh.addIm, hv]

/-- A new object that can change. -/
theorem Sim.alloc_ob (h : Sim S G w) {cs : List D} {vs : List Value} (hr : RepL G cs vs) (h1 : One vs) (T : TypeId) :
    ∃ G', Ext G G' ∧ Sim (S.setOb G.nx (some (.cells T cs))) G' (w.alloc (.cells vs.toArray T)) ∧ Rep G' (.ob G.nx 0) (.pointer (some ⟨w.heap.size, 0, none⟩)) ∧ S.ob G.nx = none ∧ G'.bl G.nx = some w.heap.size := by
  obtain ⟨f1, f2, f3, f4⟩ := h.fresh G.nx (Nat.le_refl _)
  have he : Ext G { G with bl := fun k => if k = G.nx then some w.heap.size else G.bl k, own := fun b => if b = w.heap.size then some (.inl G.nx) else G.own b, nx := G.nx + 1 } :=
    ⟨rfl, fun _ _ _ x => x, fun k b x => by
      simp only
      split
      · rename_i hk; subst hk; rw [f1] at x; cases x
      · exact x, fun _ _ _ x => x, by simp⟩
  refine ⟨_, he, ⟨h.below.alloc h.size_ge _, ?_, ?_, ?_, ?_, ?_⟩, ?_, f2, by simp⟩
  · intro b o v x
    have hb : b ≠ w.heap.size := fun hb => by subst hb; rw [h.im_new (Nat.le_refl _)] at x; cases x
    rw [World.cell?_alloc_old _ _ _ hb]
    exact h.im b o v x
  · intro k o x
    simp only [Store.ob_setOb] at x
    split at x
    · rename_i hk
      subst hk
      cases x
      refine ⟨w.heap.size, by simp, by simp, h.size_ge, fun i => h.im_new (Nat.le_refl _), vs, heap_alloc_at w _, hr.ext he, h1⟩
    · rename_i hk
      obtain ⟨b, h1, h2, h3, h4, h5⟩ := h.obj k o x
      have hlt := h5.lt
      refine ⟨b, by simp [hk, h1], ?_, h3, h4, h5.kept he (heap_alloc_lt w _ hlt)⟩
      simp only
      rw [if_neg (by omega)]
      exact h2
  · intro t n sz x
    obtain ⟨A, c, h1, h2, h3, h4⟩ := h.tok t n sz x
    refine ⟨A, c, h1, h2, fun hn => ?_, h4⟩
    obtain ⟨a, h5, h6, h7, h8, ⟨cs, E, fr, h9, h10, h11⟩, h12⟩ := h3 hn
    have hlt := heap_lt_of_some h9
    refine ⟨a, h5, h6, ?_, h8, ⟨cs, E, fr, by rw [heap_alloc_lt w _ hlt]; exact h9, h10, h11⟩, h12⟩
    simp only
    rw [if_neg (by omega)]
    exact h7
  · intro k hk
    simp only at hk
    obtain ⟨g1, g2, g3, g4⟩ := h.fresh k (by omega)
    refine ⟨?_, ?_, g3, g4⟩
    · simp only; rw [if_neg (by omega)]; exact g1
    · simp only [Store.ob_setOb]; rw [if_neg (by omega)]; exact g2
  · intro b hb
    simp at hb
    simp only
    rw [if_neg (by omega)]
    exact h.owned b (by omega)
  · simp only [Rep]
    exact ⟨w.heap.size, rfl, by simp⟩

/-- A new row with room behind what it holds. -/
theorem Sim.alloc_tk (h : Sim S G w) (vs rest : List Value) (T : TypeId) (n c sz : Nat) (hl : vs.length = n * sz) (hc : n ≤ c) (hr : vs.length + rest.length = c * sz) (hcm : c ≤ 9223372036854775807) :
    ∃ G', Ext G G' ∧ Sim (S.setTk G.nx (some (n, sz))) G' (w.alloc (.cells (vs ++ rest).toArray T)) ∧ G'.has ⟨w.heap.size, 0, none⟩ vs ∧ G'.th G.nx n = some (some ⟨w.heap.size, 0, none⟩, c) ∧ S.tk G.nx = none := by
  obtain ⟨f1, f2, f3, f4⟩ := h.fresh G.nx (Nat.le_refl _)
  obtain ⟨e1, s1, k1⟩ := h.alloc_im vs rest T
  have he : Ext (G.addIm w.heap.size fun o => vs[o]?) { (G.addIm w.heap.size fun o => vs[o]?) with th := fun t m => if t = G.nx then (if m = n then some (some ⟨w.heap.size, 0, none⟩, c) else none) else G.th t m, own := fun b => if b = w.heap.size then some (.inr G.nx) else G.own b, nx := G.nx + 1 } :=
    ⟨rfl, fun _ _ _ x => x, fun _ _ x => x, fun t m x y => by
      have y : G.th t m = some x := y
      simp only
      split
      · rename_i ht; subst ht; rw [f4] at y; cases y
      · exact y, by simp [Gh.addIm]⟩
  refine ⟨_, e1.trans he, ⟨s1.below, s1.im, ?_, ?_, ?_, ?_⟩, fun i v hv => k1 i v hv, by simp, f3⟩
  · intro k o x
    obtain ⟨b, h1, h2, h3, h4, h5⟩ := h.obj k o x
    have hlt := h5.lt
    obtain ⟨b', g1, g2, g3, g4, g5⟩ := s1.obj k o x
    have : b' = b := by have : G.bl k = some b' := g1; rw [h1] at this; cases this; rfl
    subst this
    refine ⟨b', g1, ?_, g3, g4, g5.kept he rfl⟩
    simp only
    rw [if_neg (by omega)]
    exact h2
  · intro t m sz' x
    simp only [Store.tk_setTk] at x
    split at x
    · rename_i ht
      subst ht
      cases x
      refine ⟨some ⟨w.heap.size, 0, none⟩, c, by simp, hc, fun hn => ⟨_, rfl, rfl, by simp, h.size_ge, ⟨_, T, (0, 0), heap_alloc_at w _, ⟨by simp; omega, hcm⟩, fun o _ => by simp⟩, fun o ho => ?_⟩, fun m hm => ?_⟩
      · simp only [Gh.addIm, if_true]
        rw [List.getElem?_eq_none]
        simp at ho
        omega
      · simp only [if_true]
        rw [if_neg (by omega)]
    · rename_i ht
      obtain ⟨A, c', h1, h2, h3, h4⟩ := s1.tok t m sz' x
      refine ⟨A, c', ?_, h2, fun hn => ?_, fun m' hm' => ?_⟩
      · simp only [if_neg ht]; exact h1
      · obtain ⟨a, h5, h6, h7, h8, ⟨cs, E, fr, h9, h10, h11⟩, h12⟩ := h3 hn
        obtain ⟨A2, c2, i1, i2, i3, i4⟩ := h.tok t m sz' x
        have e2 : A2 = A ∧ c2 = c' := by
          have h1 : G.th t m = some (A, c') := h1
          rw [h1] at i1
          cases i1
          exact ⟨rfl, rfl⟩
        obtain ⟨rfl, rfl⟩ := e2
        obtain ⟨a2, j5, j6, j7, j8, ⟨cs2, E2, fr2, j9, _⟩, _⟩ := i3 hn
        have : a2 = a := by rw [h5] at j5; cases j5; rfl
        subst this
        have hlt := heap_lt_of_some j9
        refine ⟨a2, h5, h6, ?_, h8, ⟨cs, E, fr, h9, h10, h11⟩, h12⟩
        simp only
        rw [if_neg (by omega)]
        exact j7
      · simp only [if_neg ht]; exact h4 m' hm'
  · intro k hk
    simp only at hk
    obtain ⟨g1, g2, g3, g4⟩ := h.fresh k (by omega)
    refine ⟨g1, g2, ?_, fun m => ?_⟩
    · simp only [Store.tk_setTk]; rw [if_neg (by omega)]; exact g3
    · simp only; rw [if_neg (by omega)]; exact g4 m
  · intro b hb
    simp at hb
    simp only
    rw [if_neg (by omega)]
    exact h.owned b (by omega)

/-- A row without room behind it may be appended to. -/
theorem Sim.new_tk (h : Sim S G w) (A : Option Addr) (n sz : Nat) :
    ∃ G', Ext G G' ∧ Sim (S.setTk G.nx (some (n, sz))) G' w ∧ G'.th G.nx n = some (A, n) ∧ S.tk G.nx = none := by
  obtain ⟨f1, f2, f3, f4⟩ := h.fresh G.nx (Nat.le_refl _)
  have he : Ext G { G with th := fun t m => if t = G.nx then (if m = n then some (A, n) else none) else G.th t m, nx := G.nx + 1 } :=
    ⟨rfl, fun _ _ _ x => x, fun _ _ x => x, fun t m x y => by
      simp only
      split
      · rename_i ht; subst ht; rw [f4] at y; cases y
      · exact y, by simp⟩
  refine ⟨_, he, ⟨h.below, h.im, ?_, ?_, ?_, h.owned⟩, by simp, f3⟩
  · intro k o x
    obtain ⟨b, h1, h2, h3, h4, h5⟩ := h.obj k o x
    exact ⟨b, h1, h2, h3, h4, h5.kept he rfl⟩
  · intro t m sz' x
    simp only [Store.tk_setTk] at x
    split at x
    · rename_i ht
      subst ht
      cases x
      exact ⟨A, n, by simp, Nat.le_refl _, fun hn => absurd hn (Nat.lt_irrefl _), fun m hm => by simp only [if_true]; rw [if_neg (by omega)]⟩
    · rename_i ht
      obtain ⟨A2, c', h1, h2, h3, h4⟩ := h.tok t m sz' x
      exact ⟨A2, c', by simp only [if_neg ht]; exact h1, h2, h3, fun m' hm' => by simp only [if_neg ht]; exact h4 m' hm'⟩
  · intro k hk
    simp only at hk
    obtain ⟨g1, g2, g3, g4⟩ := h.fresh k (by omega)
    refine ⟨g1, g2, ?_, fun m => ?_⟩
    · simp only [Store.tk_setTk]; rw [if_neg (by omega)]; exact g3
    · simp only; rw [if_neg (by omega)]; exact g4 m
end Go.Proofs.Ytfaojkajlpojlaa.Abs
