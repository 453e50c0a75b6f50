/- The soundness of the computed operations; runs of operations. -/
import Derived.Test.YtfaojkajlpojlaaAbsB
namespace Go.Proofs.Ytfaojkajlpojlaa.Abs
open Go Go.RowKit

variable {P : Program}

theorem getD_eq {α : Type} (l : List α) (i : Nat) (d : α) : l.getD i d = (l[i]?).getD d := by simp [List.getD]

theorem splice (off : Nat) : ∀ (us : List Value) (k : Nat) (pre mid post : List Value), pre.length = off + k → mid.length = us.length →
    (us.zipIdx k).foldl (fun (x : Array Value) (p : Value × Nat) => x.setIfInBounds (off + p.2) p.1) (pre ++ mid ++ post).toArray = (pre ++ us ++ post).toArray
  | [], k, pre, mid, post, _, h => by
    have : mid = [] := List.eq_nil_of_length_eq_zero h
    subst this
    rfl
  | u :: us, k, pre, [], post, _, h => by simp at h
  | u :: us, k, pre, m :: mid, post, hp, h => by
    simp only [List.zipIdx_cons, List.foldl_cons]
    have e : ((pre ++ m :: mid ++ post).toArray.setIfInBounds (off + k) u) = (pre ++ [u] ++ mid ++ post).toArray := by
      simp only [List.setIfInBounds_toArray]
      congr 1
      rw [← hp, List.append_assoc, List.set_append_right _ _ (Nat.le_refl _)]
      simp
    rw [e, splice off us (k + 1) (pre ++ [u]) mid post (by simp; omega) (by simpa using h)]
    simp

theorem fill_sound {G : Gh} {place : Nat → Option (Nat × Nat)} : ∀ (l : List (Nat × Nat × List D)) (ps : List (Nat × Value)) (cells : List D) (vs : List Value) (r : List D),
    (∀ (i : Nat) (x : Nat × Nat × List D), l[i]? = some x → ∃ (j : Nat) (v : Value) (us : List Value), ps[i]? = some (j, v) ∧ place j = some (x.1, x.2.1) ∧ v.cells = us.toArray ∧ RepL G x.2.2 us ∧ One us) → l.length = ps.length →
    fillD cells l = some r → RepL G cells vs → One vs → ∃ ws : List Value, Instr.fill place vs.toArray ps = some ws.toArray ∧ RepL G r ws ∧ One ws
  | [], ps, cells, vs, r, _, hl, h, hr, hone => by
    have : ps = [] := by cases ps <;> simp at hl ⊢
    subst this
    simp only [fillD, Option.some.injEq] at h
    subst h
    exact ⟨vs, by simp [Instr.fill], hr, hone⟩
  | (off, size, cs) :: l, ps, cells, vs, r, hp, hl, h, hr, hone => by
    cases ps with
    | nil => simp at hl
    | cons p ps =>
      obtain ⟨j, v, us, h1, h2, h3, h4, hu1⟩ := hp 0 (off, size, cs) (by simp)
      simp at h1
      subst h1
      simp only at h2 h4
      simp only [fillD] at h
      by_cases hc : cs.length ≠ size ∨ off + cs.length > cells.length
      · rw [if_pos hc] at h; cases h
      · rw [if_neg hc] at h
        have hlen := h4.length
        have hvl := hr.length
        simp only [ne_eq, not_or, Decidable.not_not, Nat.not_lt] at hc
        obtain ⟨hc1, hc2⟩ := hc
        have hr2 : RepL G (cells.take off ++ cs ++ cells.drop (off + cs.length)) (vs.take off ++ us ++ vs.drop (off + cs.length)) :=
          ((hr.take off).append h4).append (hr.drop _)
        obtain ⟨ws, h5, h6⟩ := fill_sound l ps _ _ r (fun i x hx => by simpa using hp (i + 1) x (by simpa using hx)) (by simpa using hl) h hr2 (((hone.take off).append hu1).append (hone.drop _))
        refine ⟨ws, ?_, h6⟩
        simp only [Instr.fill, h2, h3]
        simp only [List.size_toArray]
        rw [if_neg (by simp; omega)]
        have e3 : us.toArray.zipIdx.foldl (fun (x : Array Value) (p : Value × Nat) => x.setIfInBounds (off + p.2) p.1) vs.toArray = (vs.take off ++ us ++ vs.drop (off + cs.length)).toArray := by
          have hm : vs = vs.take off ++ (vs.drop off).take us.length ++ vs.drop (off + cs.length) := by
            rw [← hlen, List.append_assoc, ← List.drop_drop, List.take_append_drop, List.take_append_drop]
          have := splice off us 0 (vs.take off) ((vs.drop off).take us.length) (vs.drop (off + cs.length)) (by simp; omega) (by simp; omega)
          rw [← hm] at this
          rw [← this]
          simp
        rw [← h5]
        congr 1

theorem cellsD_sound {G : Gh} {d : D} {v : Value} {cs : List D} (h : cellsD d = some cs) (hr : Rep G d v) : ∃ us, v.cells = us.toArray ∧ RepL G cs us ∧ One us := by
  have one : ∀ w : Value, Rep G d w → w.oneCell' = true → cellsD d = some [d] → ∃ us : List Value, w.cells = us.toArray ∧ RepL G cs us ∧ One us := by
    intro w hw hna hc
    rw [hc] at h
    cases h
    refine ⟨[w], ?_, by simp only [RepL]; exact ⟨w, [], rfl, hw, rfl⟩, fun v hv => by simp at hv; subst hv; exact hna⟩
    cases w <;> first | rfl | (simp [Value.oneCell'] at hna; done)
  cases d with
  | lit x =>
    have hx := hr
    simp only [Rep] at hx
    subst hx
    cases v <;> first | (simp [cellsD] at h; done) | exact one _ hr rfl rfl
  | ag ds =>
    simp only [cellsD, Option.some.injEq] at h
    subst h
    simp only [Rep] at hr
    obtain ⟨vs, rfl, h2, h3⟩ := hr
    exact ⟨vs, rfl, h2, h3⟩
  | tup _ => simp [cellsD] at h
  | any => simp [cellsD] at h
  | sl sz es tl => have := hr; simp only [Rep] at this; obtain ⟨A, c, rfl, _⟩ := this; exact one _ hr rfl rfl
  | ob b o => have := hr; simp only [Rep] at this; obtain ⟨k, rfl, _⟩ := this; exact one _ hr rfl rfl
  | pt cs => have := hr; simp only [Rep] at this; obtain ⟨a, vs, rfl, _⟩ := this; exact one _ hr rfl rfl
  | vw b o n c => have := hr; simp only [Rep] at this; obtain ⟨k, rfl, _⟩ := this; exact one _ hr rfl rfl
  | fn f a b => have := hr; simp only [Rep] at this; obtain ⟨x, y, rfl, _⟩ := this; exact one _ hr rfl rfl
  | mp b => have := hr; simp only [Rep] at this; obtain ⟨k, rfl, _⟩ := this; exact one _ hr rfl rfl
  | cap c d => have := hr; simp only [Rep] at this; obtain ⟨_, A, n, rfl⟩ := this; exact one _ hr rfl rfl
  | wd sz es t m c => have := hr; simp only [Rep] at this; obtain ⟨A, rfl, _⟩ := this; exact one _ hr rfl rfl
  | fl n => have := hr; simp only [Rep] at this; obtain ⟨x, rfl, _⟩ := this; exact one _ hr rfl rfl
  | cx a b => have := hr; simp only [Rep] at this; obtain ⟨x, y, rfl, _⟩ := this; exact one _ hr rfl rfl

theorem avals_rep {G : Gh} {sl : List D} {a : Act} (hr : RepL G sl a.tmps.toList) : ∀ l : List Operand, RepL G (l.map (aval sl)) (l.map a.eval)
  | [] => by simp [RepL]
  | x :: l => by simp only [List.map_cons, RepL]; exact ⟨_, _, rfl, aval_rep hr x, avals_rep hr l⟩

theorem loadCells_run {vs : List Value} {a : Addr} {w : World} (hs : a.spot = none) : ∀ (n : Nat), n ≤ vs.length → (∀ i v, vs[i]? = some v → w.cell? ⟨a.block, a.off + i, none⟩ = some v) →
    (loadCells a n).run P w = .ok (vs.take n).toArray w := by
  intro n hn hv
  have addr : ∀ i, a.add i = ⟨a.block, a.off + i, none⟩ := by
    intro i
    unfold Addr.add
    split
    · rename_i h; subst h; cases a; simp at hs; simp [hs]
    · rfl
  have key : ∀ (n i : Nat) (acc : List Value), i + n ≤ vs.length → (loadCellsFrom a i n acc.toArray).run P w = .ok (acc ++ (vs.drop i).take n).toArray w := by
    intro n
    induction n with
    | zero => intro i acc _; simp [loadCellsFrom]
    | succ n ih =>
      intro i acc hle
      have hi : i < vs.length := by omega
      have h1 := hv i vs[i] (List.getElem?_eq_getElem hi)
      simp only [loadCellsFrom, Sem.run_bind, run_load, addr, h1, Result.andThen_ok]
      have := ih (i + 1) (acc ++ [vs[i]]) (by omega)
      simp only [List.push_toArray] at *
      rw [this]
      simp only [List.append_assoc, List.cons_append, List.nil_append]
      rw [List.drop_eq_getElem_cons hi, List.take_succ_cons]
  have := key n 0 [] (by omega)
  simpa [loadCells] using this

theorem rep_cells {G : Gh} {w : World} (him : ∀ b o v, G.im b o = some v → w.cell? ⟨b, o, none⟩ = some v) {a : Addr} {vs : List Value} (h : G.has a vs) :
    ∀ i v, vs[i]? = some v → w.cell? ⟨a.block, a.off + i, none⟩ = some v := fun i v hv => him _ _ _ (h i v hv)

theorem addr_add (a : Addr) (n : Nat) (h : a.spot = none) : a.add n = ⟨a.block, a.off + n, none⟩ := by
  unfold Addr.add
  split
  · rename_i h0; subst h0; cases a; simp at h; simp [h]
  · rfl

theorem RepLL.take {G : Gh} {sz : Nat} : ∀ {es : List (List D)} {vs : List Value} (n : Nat), RepLL G sz es vs → RepLL G sz (es.take n) (vs.take (n * sz))
  | _, _, 0, _ => by simp [RepLL]
  | [], vs, n + 1, h => by simp only [RepLL] at h; subst h; simp [RepLL]
  | e :: es, vs, n + 1, h => by
    simp only [RepLL] at h
    obtain ⟨x, r, rfl, h2, h3, h4⟩ := h
    simp only [List.take_succ_cons, RepLL]
    refine ⟨x, r.take (n * sz), ?_, h2, h3, h4.take n⟩
    have : x.length = sz := by rw [h3.1.length, h2]
    rw [List.take_append]
    rw [show (n + 1) * sz - x.length = n * sz by rw [this, Nat.add_mul]; omega, List.take_of_length_le (by rw [this, Nat.add_mul]; omega)]
theorem RepLL.drop {G : Gh} {sz : Nat} : ∀ {es : List (List D)} {vs : List Value} (n : Nat), RepLL G sz es vs → RepLL G sz (es.drop n) (vs.drop (n * sz))
  | _, _, 0, h => by simpa using h
  | [], vs, n + 1, h => by simp only [RepLL] at h; subst h; simp [RepLL]
  | e :: es, vs, n + 1, h => by
    simp only [RepLL] at h
    obtain ⟨x, r, rfl, h2, h3, h4⟩ := h
    have : x.length = sz := by rw [h3.1.length, h2]
    rw [List.drop_append, List.drop_of_length_le (l := x) (by rw [this, Nat.add_mul]; omega), show (n + 1) * sz - x.length = n * sz by rw [this, Nat.add_mul]; omega]
    simpa using h4.drop n

theorem Gh.has_take {G : Gh} {a : Addr} {vs : List Value} (h : G.has a vs) (n : Nat) : G.has a (vs.take n) := fun i v hv => h i v (by
  rw [List.getElem?_take] at hv
  split at hv
  · exact hv
  · cases hv)
theorem Gh.has_drop {G : Gh} {a : Addr} {vs : List Value} (h : G.has a vs) (n : Nat) (b : Addr) (hb : b.block = a.block) (ho : b.off = a.off + n) : G.has b (vs.drop n) := fun i v hv => by
  rw [List.getElem?_drop] at hv
  have := h _ _ hv
  rw [hb, ho, Nat.add_assoc]; exact this

/-- A cut of a row. -/
theorem cut_rep {G : Gh} {sz : Nat} {es : List (List D)} {tl : Option Nat} {A : Option Addr} {n c l h : Nat} (hr : Rep G (.sl sz es tl) (.slice A n c)) (hlh : l ≤ h) (hh : h ≤ es.length) :
    Rep G (.sl sz ((es.take h).drop l) none) (.slice (if c = l then A else A.map (·.add (l * sz))) (h - l) (c - l)) := by
  simp only [Rep] at *
  obtain ⟨A', c', e1, h2, -, h4⟩ := hr
  injection e1 with e1 e3 e4
  subst e1 e3 e4
  have hlen : ((es.take h).drop l).length = h - l := by simp; omega
  refine ⟨_, _, by rw [hlen], by rw [hlen]; omega, fun t ht => (by cases ht), ?_⟩
  by_cases hz : (es.take h).drop l = []
  · exact .inl hz
  · right
    have hlt : l < h := by
      rcases Nat.lt_or_ge l h with h' | h'
      · exact h'
      · exact absurd (List.eq_nil_of_length_eq_zero (by rw [hlen]; omega)) hz
    rcases h4 with h4 | ⟨a, vs, h5, h6, h7, h8⟩
    · subst h4; simp at hh; omega
    · subst h5
      rw [if_neg (by omega)]
      refine ⟨a.add (l * sz), (vs.take (h * sz)).drop (l * sz), rfl, by rw [addr_add a _ h6], (h7.take h).drop l, ?_⟩
      exact Gh.has_drop (Gh.has_take h8 (h * sz)) (l * sz) _ (by rw [addr_add a _ h6]) (by rw [addr_add a _ h6])
end Go.Proofs.Ytfaojkajlpojlaa.Abs
