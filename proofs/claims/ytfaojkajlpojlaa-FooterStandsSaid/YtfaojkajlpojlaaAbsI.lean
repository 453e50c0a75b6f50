/- Objects: made, read, written, frozen. -/
import Derived.Test.YtfaojkajlpojlaaAbsH
namespace Go.Proofs.Ytfaojkajlpojlaa.Abs
open Go Go.RowKit

variable {P : Program} {S : Store} {G : Gh} {w : World}

theorem heap_setCells_exact (b : Nat) : ∀ (vs : List Value) (o : Nat) (w : World) {cs : List Value} {E : TypeId} {fr : Nat × Nat}, w.heap[b]? = some (.cells cs.toArray E fr) → o + vs.length ≤ cs.length →
    (w.setCells b o vs).heap[b]? = some (.cells (cs.take o ++ vs ++ cs.drop (o + vs.length)).toArray E fr)
  | [], o, w, cs, E, fr, h, _ => by simpa [World.setCells] using h
  | v :: vs, o, w, cs, E, fr, h, hl => by
    simp only [List.length_cons] at hl
    have h1 := heap_setCell_block w b o v h
    rw [List.setIfInBounds_toArray] at h1
    have := heap_setCells_exact b vs (o + 1) (w.setCell ⟨b, o, none⟩ v) h1 (by simp; omega)
    rw [World.setCells, this]
    congr 2
    apply Array.ext'
    simp only [List.length_cons]
    have ho : o < cs.length := by omega
    rw [List.take_set, List.drop_set, List.take_succ_eq_append_getElem (by simpa using ho)]
    rw [if_pos (by omega)]
    rw [List.set_append_right _ _ (by simp; omega)]
    have : min o cs.length = o := by omega
    simp [this, show o + 1 + vs.length = o + (vs.length + 1) by omega]

/-- A store into an object. -/
theorem Sim.store_ob (h : Sim S G w) {k T o b : Nat} {cs ds : List D} {vs : List Value} (hk : S.ob k = some (.cells T cs)) (hb : G.bl k = some b) (hr : RepL G ds vs) (h1 : One vs) (ho : o + ds.length ≤ cs.length) :
    Sim (S.setOb k (some (.cells T (cs.take o ++ ds ++ cs.drop (o + ds.length))))) G (w.setCells b o vs) ∧
      (∀ j, j < vs.length → (w.cell? ⟨b, o + j, none⟩).isSome = true) ∧ (∀ j, j < vs.length → w.frozen? ⟨b, o + j, none⟩ = false) := by
  obtain ⟨b', g1, g2, g3, g4, us, g5, g6, g7⟩ := h.obj k _ hk
  rw [hb] at g1
  cases g1
  have hl := hr.length
  have hu := g6.length
  refine ⟨⟨Below.setCells g3 _ _ h.below, ?_, ?_, ?_, ?_, ?_⟩, ?_, ?_⟩
  · intro c i v x
    have hne : c ≠ b := fun e => by subst e; rw [g4 i] at x; cases x
    rw [World.cell?_setCells_out b vs o w ⟨c, i, none⟩ (fun e => absurd e hne)]
    exact h.im c i v x
  · intro k' o' x
    simp only [Store.ob_setOb] at x
    split at x
    · rename_i e
      subst e
      cases x
      refine ⟨b, hb, g2, g3, g4, us.take o ++ vs ++ us.drop (o + vs.length), heap_setCells_exact b vs o w g5 (by omega), ?_, ((g7.take o).append h1).append (g7.drop _)⟩
      rw [hl]
      exact ((g6.take o).append hr).append (g6.drop _)
    · rename_i e
      obtain ⟨c, i1, i2, i3, i4, i5⟩ := h.obj k' o' x
      have hne : c ≠ b := fun e' => by subst e'; rw [g2] at i2; cases i2; exact e rfl
      exact ⟨c, i1, i2, i3, i4, i5.kept (Ext.refl G) (heap_setCells_far b _ _ _ hne)⟩
  · intro t n sz x
    obtain ⟨A, c, i1, i2, i3, i4⟩ := h.tok t n sz x
    refine ⟨A, c, i1, i2, fun hn => ?_, i4⟩
    obtain ⟨a, h5, h6, h7, h8, ⟨cs', E, fr, h9, h10, h11⟩, h12⟩ := i3 hn
    have hne : a.block ≠ b := fun e => by rw [e] at h7; rw [g2] at h7; cases h7
    exact ⟨a, h5, h6, h7, h8, ⟨cs', E, fr, by rw [heap_setCells_far b _ _ _ hne]; exact h9, h10, h11⟩, h12⟩
  · intro k' hk'
    obtain ⟨f1, f2, f3, f4⟩ := h.fresh k' hk'
    have hne : k' ≠ k := fun e => by subst e; rw [f2] at hk; cases hk
    exact ⟨f1, by simp [hne, f2], f3, f4⟩
  · intro c hc
    rw [size_setCells] at hc
    exact h.owned c hc
  · intro j hj
    simp only [World.cell?, g5]
    simp
    omega
  · intro j hj
    simp only [World.frozen?, g5]
    simp

theorem storeAt_ob (h : Sim S G w) {k T o t : Nat} {cs ds : List D} {a v : Value} (hk : S.ob k = some (.cells T cs)) (ha : Rep G (.ob k o) a) {us : List Value} (hv : v.cells = us.toArray) (hr : RepL G ds us) (h1 : One us)
    (hn : cellsN P t = some ds.length) (ho : o + ds.length ≤ cs.length) :
    ∃ w', (Instr.storeAt t a v).run P w = .ok () w' ∧ Sim (S.setOb k (some (.cells T (cs.take o ++ ds ++ cs.drop (o + ds.length))))) G w' := by
  simp only [Rep] at ha
  obtain ⟨b, rfl, hb⟩ := ha
  obtain ⟨g1, g2, g3⟩ := h.store_ob hk hb hr h1 ho
  have hl := hr.length
  refine ⟨_, ?_, g1⟩
  have := run_storeCells_cells (P := P) b o us 0 w (by simpa using g2) (by simpa using g3) h1
  simp only [Nat.add_zero] at this
  have hs : v.cells.size = ds.length := by rw [hv]; simpa using hl
  simp only [Instr.storeAt, Instr.sureAddr, storeVar, Sem.run_bind, Sem.run_pure, Result.andThen_ok, run_sizeOf hn]
  rw [if_neg (by simpa using hs)]
  rw [hv]
  simpa using this

theorem loadAt_ob (h : Sim S G w) {k T o t : Nat} {cs : List D} {a : Value} (hk : S.ob k = some (.cells T cs)) (ha : Rep G (.ob k o) a) {d : D}
    (hd : (aggT P t = some true ∧ ∃ n, cellsN P t = some n ∧ o + n ≤ cs.length ∧ d = .ag ((cs.drop o).take n)) ∨ (aggT P t = some false ∧ cs[o]? = some d)) :
    ∃ v, (Instr.loadAt t a).run P w = .ok v w ∧ Rep G d v := by
  simp only [Rep] at ha
  obtain ⟨b, rfl, hb⟩ := ha
  obtain ⟨b', g1, g2, g3, g4, us, g5, g6, g7⟩ := h.obj k _ hk
  rw [hb] at g1
  cases g1
  have hu := g6.length
  have hcell : ∀ i v, us[i]? = some v → w.cell? ⟨b, i, none⟩ = some v := fun i v hv => by simp [World.cell?, g5, hv]
  rcases hd with ⟨ha, n, hn, hle, rfl⟩ | ⟨ha, hd⟩
  · refine ⟨.agg ((us.drop o).take n).toArray, ?_, by simp only [Rep]; exact ⟨_, rfl, (g6.drop o).take n, (g7.drop o).take n⟩⟩
    simp only [Instr.loadAt, Instr.sureAddr, loadVar, Sem.run_bind, Sem.run_pure, Result.andThen_ok, run_isAgg ha, Sem.run_ite, if_true, run_sizeOf hn]
    rw [loadCells_run (vs := (us.drop o).take n) rfl n (by simp; omega) (fun i v hv => hcell _ _ (by
      rw [List.getElem?_take] at hv
      split at hv
      · rw [List.getElem?_drop] at hv; exact hv
      · cases hv))]
    rw [List.take_take, Nat.min_self]
    rfl
  · obtain ⟨v, h1, h2⟩ := g6.get _ _ hd
    refine ⟨v, ?_, h2⟩
    simp only [Instr.loadAt, Instr.sureAddr, loadVar, Sem.run_bind, Sem.run_pure, Result.andThen_ok, run_isAgg ha, Sem.run_ite, Bool.false_eq_true, if_false, run_load, hcell _ _ h1]

/-- From now on an object does not change any more. -/
theorem Sim.freeze_ob (h : Sim S G w) {k T : Nat} {cs : List D} (hk : S.ob k = some (.cells T cs)) :
    ∃ G' b us, Ext G G' ∧ Sim (S.setOb k none) G' w ∧ G'.bl k = some b ∧ RepL G' cs us ∧ One us ∧ ∀ i v, us[i]? = some v → G'.im b i = some v := by
  obtain ⟨b, g1, g2, g3, g4, us, g5, g6, g7⟩ := h.obj k _ hk
  have he : Ext G (G.addIm b fun i => us[i]?) := ⟨rfl, fun c i v x => by
    simp only [Gh.addIm]
    split
    · rename_i e; subst e; rw [g4 i] at x; cases x
    · exact x, fun _ _ x => x, fun _ _ _ x => x, Nat.le_refl _⟩
  refine ⟨_, b, us, he, ⟨h.below, ?_, ?_, ?_, ?_, h.owned⟩, g1, g6.ext he, g7, fun i v hv => by simp [Gh.addIm, hv]⟩
  · intro c i v x
    simp only [Gh.addIm] at x
    split at x
    · rename_i e; subst e; simp [World.cell?, g5, x]
    · exact h.im c i v x
  · intro k' o' x
    simp only [Store.ob_setOb] at x
    split at x
    · cases x
    · rename_i e
      obtain ⟨c, i1, i2, i3, i4, i5⟩ := h.obj k' o' x
      have hne : c ≠ b := fun e' => by subst e'; rw [g2] at i2; cases i2; exact e rfl
      refine ⟨c, i1, i2, i3, fun i => ?_, i5.kept he rfl⟩
      simp only [Gh.addIm]
      rw [if_neg hne]
      exact i4 i
  · intro t n sz x
    obtain ⟨A, c, i1, i2, i3, i4⟩ := h.tok t n sz x
    refine ⟨A, c, i1, i2, fun hn => ?_, i4⟩
    obtain ⟨a, h5, h6, h7, h8, h9, h12⟩ := i3 hn
    have hne : a.block ≠ b := fun e => by rw [e] at h7; rw [g2] at h7; cases h7
    refine ⟨a, h5, h6, h7, h8, h9, fun o ho => ?_⟩
    simp only [Gh.addIm]
    rw [if_neg hne]
    exact h12 o ho
  · intro k' hk'
    obtain ⟨f1, f2, f3, f4⟩ := h.fresh k' hk'
    refine ⟨f1, ?_, f3, f4⟩
    simp only [Store.ob_setOb]
    split
    · rfl
    · exact f2

def chunk (sz : Nat) : Nat → List D → List (List D)
  | 0, _ => []
  | n + 1, cs => cs.take sz :: chunk sz n (cs.drop sz)
theorem chunk_length (sz : Nat) : ∀ (n : Nat) (cs : List D), (chunk sz n cs).length = n
  | 0, _ => rfl
  | n + 1, cs => by simp [chunk, chunk_length sz n]
theorem chunk_rep {sz : Nat} : ∀ (n : Nat) {cs : List D} {vs : List Value}, RepL G cs vs → One vs → n * sz ≤ cs.length → RepLL G sz (chunk sz n cs) (vs.take (n * sz))
  | 0, cs, vs, _, _, _ => by simp [chunk, RepLL]
  | n + 1, cs, vs, h, h1, hl => by
    have hv := h.length
    simp only [chunk, RepLL]
    have e : (n + 1) * sz = sz + n * sz := by rw [Nat.add_mul]; omega
    refine ⟨vs.take sz, (vs.drop sz).take (n * sz), ?_, by simp; omega, ⟨h.take sz, h1.take sz⟩, chunk_rep n (h.drop sz) (h1.drop sz) (by simp; omega)⟩
    rw [e, List.take_add]

/-- How data reads once object k (which holds cs) does not change any more. -/
inductive Frz (k : Nat) (cs : List D) : D → D → Prop
  | refl (d : D) : Frz k cs d d
  | ob (o : Nat) : Frz k cs (.ob k o) (.pt (cs.drop o))
  | vw (o n c sz : Nat) : n ≤ c → o + n * sz ≤ cs.length → Frz k cs (.vw k o n c) (.sl sz (chunk sz n (cs.drop o)) none)
inductive FrzL (k : Nat) (cs : List D) : List D → List D → Prop
  | nil : FrzL k cs [] []
  | cons {d d' : D} {l l' : List D} : Frz k cs d d' → FrzL k cs l l' → FrzL k cs (d :: l) (d' :: l')
theorem FrzL.refl {k : Nat} {cs : List D} : ∀ l, FrzL k cs l l
  | [] => .nil
  | d :: l => .cons (.refl d) (FrzL.refl l)
theorem Frz.rep {k b : Nat} {cs : List D} {us : List Value} (hb : G.bl k = some b) (hr : RepL G cs us) (h1 : One us) (him : ∀ i v, us[i]? = some v → G.im b i = some v) {d d' : D} {v : Value} (h : Frz k cs d d') (x : Rep G d v) : Rep G d' v := by
  cases h with
  | refl => exact x
  | ob o =>
    simp only [Rep] at *
    obtain ⟨b', rfl, h2⟩ := x
    rw [hb] at h2
    cases h2
    refine ⟨_, us.drop o, rfl, rfl, ⟨hr.drop o, h1.drop o⟩, fun i v hv => ?_⟩
    rw [List.getElem?_drop] at hv
    exact him _ _ hv
  | vw o n c sz hnc hle =>
    simp only [Rep] at *
    obtain ⟨b', rfl, h2⟩ := x
    rw [hb] at h2
    cases h2
    have hl := hr.length
    refine ⟨_, c, by rw [chunk_length], by rw [chunk_length]; exact hnc, fun t ht => (by cases ht), ?_⟩
    right
    refine ⟨_, (us.drop o).take (n * sz), rfl, rfl, chunk_rep n (hr.drop o) (h1.drop o) (by simp; omega), fun i v hv => ?_⟩
    rw [List.getElem?_take] at hv
    split at hv
    · rw [List.getElem?_drop] at hv; exact him _ _ hv
    · cases hv
theorem FrzL.rep {k b : Nat} {cs : List D} {us : List Value} (hb : G.bl k = some b) (hr : RepL G cs us) (h1 : One us) (him : ∀ i v, us[i]? = some v → G.im b i = some v) : ∀ {l l' : List D} {vs : List Value}, FrzL k cs l l' → RepL G l vs → RepL G l' vs
  | _, _, vs, .nil, h => h
  | _, _, vs, .cons h2 h3, h => by
    simp only [RepL] at *
    obtain ⟨x, r, rfl, h4, h5⟩ := h
    exact ⟨x, r, rfl, h2.rep hb hr h1 him h4, h3.rep hb hr h1 him h5⟩

variable {Q : Exit → List D → Store → Prop} {sl : List D}

theorem AOps_freeze {ops : Array Oper} {l : List Nat} {k T : Nat} {cs sl' : List D} (hk : S.ob k = some (.cells T cs)) (hl : FrzL k cs sl sl') (h : AOps P ops Q l sl' (S.setOb k none)) : AOps P ops Q l sl S := by
  intro G w a hs hr hd
  obtain ⟨G', b, us, h1, h2, h3, h4, h5, h6⟩ := hs.freeze_ob hk
  exact wpOps_mono (fun e a w x => liftQ_ext h1 x) _ _ _ (h G' w a h2 (hl.rep h3 h4 h5 h6 (hr.ext h1)) hd)
theorem AT_freeze {c : Code} {k T : Nat} {cs sl' : List D} (hk : S.ob k = some (.cells T cs)) (hl : FrzL k cs sl sl') (h : AT P c Q sl' (S.setOb k none)) : AT P c Q sl S := by
  intro G w a hs hr hd
  obtain ⟨G', b, us, h1, h2, h3, h4, h5, h6⟩ := hs.freeze_ob hk
  exact wp_mono (h G' w a h2 (hl.rep h3 h4 h5 h6 (hr.ext h1)) hd) fun e a w x => liftQ_ext h1 x

theorem wrap_u {s : Sem Unit} {w w' : World} (h : s.run P w = .ok () w') : (do s; pure .skip : Sem Next).run P w = .ok .skip w' := by
  simp only [Sem.run_bind, h, Result.andThen_ok, Sem.run_pure]
theorem wrap_v' {r : Value} {s : Sem Value} {w w' : World} (h : s.run P w = .ok r w') : (do pure (.value (← s)) : Sem Next).run P w = .ok (.value r) w' := by
  simp only [Sem.run_bind, h, Result.andThen_ok, Sem.run_pure]

/-- A load out of an object. -/
theorem AOps_load {ops : Array Oper} {i : Nat} {l : List Nat} {o : Oper} {t k T off : Nat} {x : Operand} {cs : List D} (d : D) (ho : ops[i]? = some o) (hw : awanted ops sl o = some true) (hop : o.op = .load t x)
    (hx : aval sl x = .ob k off) (hk : S.ob k = some (.cells T cs))
    (hd : (aggT P t = some true ∧ ∃ n, cellsN P t = some n ∧ off + n ≤ cs.length ∧ d = .ag ((cs.drop off).take n)) ∨ (aggT P t = some false ∧ cs[off]? = some d))
    (h : AOps P ops Q l (aput sl o.dst d) S) : AOps P ops Q (i :: l) sl S := by
  refine AOps_one ho hw fun G w a hs hr hdf => ?_
  have ha := aval_rep hr x
  rw [hx] at ha
  obtain ⟨v, h1, h2⟩ := loadAt_ob (P := P) hs hk ha hd
  exact ⟨_, w, G, d, S, by simp only [execOp, hop]; exact wrap_v h1, Ext.refl G, hs, .inr ⟨v, rfl, h2⟩, h⟩

/-- A store into an object. -/
theorem AOps_put {ops : Array Oper} {i : Nat} {l : List Nat} {o : Oper} {t k T off : Nat} {x y : Operand} {cs ds : List D} (ho : ops[i]? = some o) (hw : awanted ops sl o = some true) (hop : o.op = .store t x y)
    (hx : aval sl x = .ob k off) (hk : S.ob k = some (.cells T cs)) (hy : cellsD (aval sl y) = some ds) (hn : cellsN P t = some ds.length) (hle : off + ds.length ≤ cs.length)
    (h : AOps P ops Q l (aput sl o.dst .any) (S.setOb k (some (.cells T (cs.take off ++ ds ++ cs.drop (off + ds.length)))))) : AOps P ops Q (i :: l) sl S := by
  refine AOps_one ho hw fun G w a hs hr hdf => ?_
  have ha := aval_rep hr x
  rw [hx] at ha
  obtain ⟨us, h1, h2, h3⟩ := cellsD_sound hy (aval_rep hr y)
  obtain ⟨w', h4, h5⟩ := storeAt_ob (P := P) hs hk ha h1 h2 h3 hn hle
  exact ⟨_, w', G, .any, _, by simp only [execOp, hop]; exact wrap_u h4, Ext.refl G, h5, .inl ⟨rfl, rfl⟩, h⟩

/-- A variable in memory that will not change. -/
theorem AOps_box_im {ops : Array Oper} {i : Nat} {l : List Nat} {o : Oper} {t : Nat} {x : Operand} {ds : List D} (ho : ops[i]? = some o) (hw : awanted ops sl o = some true) (hop : o.op = .box t x)
    (hx : cellsD (aval sl x) = some ds) (h : AOps P ops Q l (aput sl o.dst (.pt ds)) S) : AOps P ops Q (i :: l) sl S := by
  refine AOps_one ho hw fun G w a hs hr hdf => ?_
  obtain ⟨us, h1, h2, h3⟩ := cellsD_sound hx (aval_rep hr x)
  obtain ⟨e1, s1, k1⟩ := hs.alloc_im us [] t
  rw [List.append_nil] at s1
  refine ⟨.value (.pointer (some ⟨w.heap.size, 0, none⟩)), _, _, .pt ds, S, by simp only [execOp, hop]; exact wrap_v' (by simp [Instr.box, newVar, newRow, h1]), e1, s1, .inr ⟨_, rfl, ?_⟩, h⟩
  simp only [Rep]
  exact ⟨_, us, rfl, rfl, ⟨h2.ext e1, h3⟩, k1⟩

/-- A variable in memory. -/
theorem AOps_box_ob {ops : Array Oper} {i : Nat} {l : List Nat} {o : Oper} {t : Nat} {x : Operand} {ds : List D} (ho : ops[i]? = some o) (hw : awanted ops sl o = some true) (hop : o.op = .box t x)
    (hx : cellsD (aval sl x) = some ds) (h : ∀ k, S.ob k = none → AOps P ops Q l (aput sl o.dst (.ob k 0)) (S.setOb k (some (.cells t ds)))) : AOps P ops Q (i :: l) sl S := by
  refine AOps_one ho hw fun G w a hs hr hdf => ?_
  obtain ⟨us, h1, h2, h3⟩ := cellsD_sound hx (aval_rep hr x)
  obtain ⟨G', e1, s1, k1, k2, _⟩ := hs.alloc_ob h2 h3 t
  exact ⟨.value (.pointer (some ⟨w.heap.size, 0, none⟩)), _, G', .ob G.nx 0, _, by simp only [execOp, hop]; exact wrap_v' (by simp [Instr.box, newVar, newRow, h1]), e1, s1, .inr ⟨_, rfl, k1⟩, h _ k2⟩

def zeroD (P : Program) (t : TypeId) : Option (List D) :=
  match (P.info? t).bind (·.zero) with
  | some z => if z.cells.all (·.oneCell') then some (z.cells.toList.map .lit) else none
  | none => none
theorem zeroD_sound {t : TypeId} {ds : List D} (h : zeroD P t = some ds) : ∃ z, (∀ w : World, (zeroValue t).run P w = .ok z w) ∧ (∃ us, z.cells = us.toArray ∧ (∀ G, RepL G ds us) ∧ One us) := by
  unfold zeroD at h
  split at h
  · rename_i z hz
    split at h
    · rename_i h1
      simp only [Option.some.injEq] at h
      subst h
      refine ⟨z, fun w => ?_, z.cells.toList, by simp, fun G => lits_rep _, fun v hv => Array.all_eq_true'.1 h1 v (by simpa using hv)⟩
      cases hi : P.info? t with
      | none => simp [hi] at hz
      | some i => simp [hi] at hz; simp [zeroValue, typeInfo, hi, hz]
    · cases h
  · cases h

/-- A variable in memory, at zero. -/
theorem AOps_alloc {ops : Array Oper} {i : Nat} {l : List Nat} {o : Oper} {t : Nat} {ds : List D} (ho : ops[i]? = some o) (hw : awanted ops sl o = some true) (hop : o.op = .alloc t)
    (hz : zeroD P t = some ds) (h : ∀ k, S.ob k = none → AOps P ops Q l (aput sl o.dst (.ob k 0)) (S.setOb k (some (.cells t ds)))) : AOps P ops Q (i :: l) sl S := by
  refine AOps_one ho hw fun G w a hs hr hdf => ?_
  obtain ⟨z, h1, us, h2, h3, h4⟩ := zeroD_sound hz
  obtain ⟨G', e1, s1, k1, k2, _⟩ := hs.alloc_ob (h3 G) h4 t
  exact ⟨.value (.pointer (some ⟨w.heap.size, 0, none⟩)), _, G', .ob G.nx 0, _, by simp only [execOp, hop]; exact wrap_v' (by simp [Instr.alloc, newVar, newRow, h1, h2]), e1, s1, .inr ⟨_, rfl, k1⟩, h _ k2⟩

/-- An append. -/
theorem AOps_append {ops : Array Oper} {i : Nat} {l : List Nat} {o : Oper} {c : Call} {t t2 e sz bytes tk : Nat} {s x : Operand} {es xs : List (List D)} {tl : Option Nat} (ho : ops[i]? = some o) (hw : awanted ops sl o = some true) (hop : o.op = .call c)
    (hc : c = { callee := .builtin .append, args := #[s, x], argTypes := #[t, t2] }) (he : elemT P t = some e) (hok : appOk P e sz bytes = true)
    (hsl : aval sl s = .sl sz es (some tk)) (htk : S.tk tk = some (es.length, sz))
    (hx : (∃ e2, P.underlying t2 = some (.slice e2) ∧ aval sl x = .sl sz xs tl) ∨ (∃ b, P.underlying t2 = some .string ∧ aval sl x = .lit (.string b) ∧ sz = 1 ∧ xs = bytesD b))
    (hfit : (es.length + xs.length) * bytes ≤ 140737488355328) (h63 : es.length + xs.length ≤ 9223372036854775807)
    (h : AOps P ops Q l (aput sl o.dst (.sl sz (es ++ xs) (some tk))) (S.setTk tk (some (es.length + xs.length, sz)))) : AOps P ops Q (i :: l) sl S := by
  refine AOps_one ho hw fun G w a hs hr hdf => ?_
  have h1 := aval_rep hr s
  rw [hsl] at h1
  have h2 := aval_rep hr x
  obtain ⟨news, h3, h4⟩ : ∃ news, Src P w t2 sz xs.length (a.eval x) news ∧ RepLL G sz xs news := by
    rcases hx with ⟨e2, q1, q2⟩ | ⟨b, q1, q2, rfl, rfl⟩
    · rw [q2] at h2; exact Src_of_sl hs q1 h2
    · rw [q2] at h2
      simp only [Rep] at h2
      rw [h2]
      have hb : (bytesD b).length = b.size := by simp only [bytesD, List.length_map]; rfl
      rw [hb]
      exact Src_of_str q1
  obtain ⟨v', w', G', h5, h6, h7, h8⟩ := append_core (P := P) (ty := o.type) hs (elemT_underlying he) hok h1 htk h3 h4 hfit h63
  refine ⟨_, w', G', _, _, ?_, h6, h7, .inr ⟨v', rfl, h8⟩, h⟩
  have e : (#[s, x] : Array Operand).map a.eval = #[a.eval s, a.eval x] := by simp
  simp only [execOp, hop, hc, resolve, Sem.run_bind, Sem.run_pure, Result.andThen_ok, invoke, builtin, e, h5]

theorem AOps_append_nil {ops : Array Oper} {i : Nat} {l : List Nat} {o : Oper} {c : Call} {t t2 e sz bytes : Nat} {s x : Operand} {xs : List (List D)} {tl : Option Nat} (ho : ops[i]? = some o) (hw : awanted ops sl o = some true) (hop : o.op = .call c)
    (hc : c = { callee := .builtin .append, args := #[s, x], argTypes := #[t, t2] }) (he : elemT P t = some e) (hok : appOk P e sz bytes = true)
    (hsl : aval sl s = .lit (.slice none 0 0))
    (hx : (∃ e2, P.underlying t2 = some (.slice e2) ∧ aval sl x = .sl sz xs tl) ∨ (∃ b, P.underlying t2 = some .string ∧ aval sl x = .lit (.string b) ∧ sz = 1 ∧ xs = bytesD b))
    (hfit : xs.length * bytes ≤ 140737488355328) (h63 : xs.length ≤ 9223372036854775807)
    (h : ∀ tk, S.tk tk = none → AOps P ops Q l (aput sl o.dst (.sl sz xs (some tk))) (S.setTk tk (some (xs.length, sz)))) : AOps P ops Q (i :: l) sl S := by
  refine AOps_one ho hw fun G w a hs hr hdf => ?_
  have h1 := lit_of hr hsl
  have h2 := aval_rep hr x
  obtain ⟨news, h3, h4⟩ : ∃ news, Src P w t2 sz xs.length (a.eval x) news ∧ RepLL G sz xs news := by
    rcases hx with ⟨e2, q1, q2⟩ | ⟨b, q1, q2, rfl, rfl⟩
    · rw [q2] at h2; exact Src_of_sl hs q1 h2
    · rw [q2] at h2
      simp only [Rep] at h2
      rw [h2]
      have hb : (bytesD b).length = b.size := by simp only [bytesD, List.length_map]; rfl
      rw [hb]
      exact Src_of_str q1
  obtain ⟨v', w', G', tk, h0, h5, h6, h7, h8⟩ := append_nil_core (P := P) (ty := o.type) hs (elemT_underlying he) hok h3 h4 hfit h63
  refine ⟨_, w', G', _, _, ?_, h6, h7, .inr ⟨v', rfl, h8⟩, h tk h0⟩
  have e : (#[s, x] : Array Operand).map a.eval = #[a.eval s, a.eval x] := by simp
  simp only [execOp, hop, hc, resolve, Sem.run_bind, Sem.run_pure, Result.andThen_ok, invoke, builtin, e, h1, h5]

/-- From nothing on: a row that may be appended to. -/
theorem nil_tk (hs : Sim S G w) (sz : Nat) : ∃ G' tk, S.tk tk = none ∧ Ext G G' ∧ Sim (S.setTk tk (some (0, sz))) G' w ∧ Rep G' (.sl sz [] (some tk)) (.slice none 0 0) := by
  obtain ⟨G1, e1, s1, h1, h2⟩ := hs.new_tk none 0 sz
  refine ⟨G1, G.nx, h2, e1, s1, ?_⟩
  simp only [Rep]
  exact ⟨none, 0, rfl, Nat.le_refl _, fun t' ht' => by cases ht'; exact h1, .inl trivial⟩

theorem AT_nil_tk {c : Code} (i sz : Nat) (hi : sl[i]? = some (.lit (.slice none 0 0))) (h : ∀ tk, S.tk tk = none → AT P c Q (sl.set i (.sl sz [] (some tk))) (S.setTk tk (some (0, sz)))) : AT P c Q sl S := by
  intro G w a hs hr hd
  obtain ⟨G', tk, h1, h2, h3, h4⟩ := nil_tk hs sz
  refine wp_mono (h tk h1 G' w a h3 ?_ hd) fun e a w x => liftQ_ext h2 x
  obtain ⟨v, h5, h6⟩ := hr.get _ _ hi
  simp only [Rep] at h6
  subst h6
  have := (hr.ext h2).set i _ _ h4
  have e : a.tmps.toList.set i (.slice none 0 0) = a.tmps.toList := by
    apply List.ext_getElem?
    intro j
    rw [List.getElem?_set]
    split
    · rename_i e
      subst e
      split
      · exact h5.symm
      · rename_i hlt; rw [List.getElem?_eq_none (by omega)] at h5; cases h5
    · rfl
  rw [e] at this
  exact this

/-- A slice literal. -/
theorem AOps_lit {ops : Array Oper} {i : Nat} {l : List Nat} {o : Oper} {t e sz n : Nat} {parts : Array (Nat × Operand)} {es : List (List D)} (ho : ops[i]? = some o) (hw : awanted ops sl o = some true) (hop : o.op = .buildSlice t n parts)
    (he : elemT P t = some e) (hsz : cellsN P e = some sz) (hpos : 0 < sz) (hz : (zeroD P e).isSome = true) (hn : n * sz ≤ 16777216) (hlen : parts.toList.map (·.1) = List.range n) (hes : parts.toList.map (fun p => cellsD (aval sl p.2)) = es.map some) (hes2 : ∀ x ∈ es, x.length = sz)
    (h : ∀ tk, S.tk tk = none → AOps P ops Q l (aput sl o.dst (.sl sz es (some tk))) (S.setTk tk (some (n, sz)))) : AOps P ops Q (i :: l) sl S := by
  refine AOps_one ho hw fun G w a hs hr hdf => ?_
  obtain ⟨zd, hzd⟩ := Option.isSome_iff_exists.1 hz
  obtain ⟨z, hz1, us0, hz2, hz3, hz4⟩ := zeroD_sound hzd
  have hnl : es.length = n := by
    have h1 := congrArg List.length hlen
    have h2 := congrArg List.length hes
    simp at h1 h2
    omega
  -- the cells
  have key : ∀ (ps : List (Nat × Operand)) (fs : List (List D)) (k : Nat), ps.map (fun p => cellsD (aval sl p.2)) = fs.map some → (∀ x ∈ fs, x.length = sz) → ps.map (·.1) = (List.range ps.length).map (k + ·) →
      ∃ us : List Value, RepLL G sz fs us ∧ ∀ (pre post : List Value), pre.length = k * sz → post.length = ps.length * sz →
        ∃ rest, Instr.fill (fun i => some (i * sz, sz)) (pre ++ post).toArray (ps.map fun p => (p.1, a.eval p.2)) = some (pre ++ us ++ rest).toArray ∧ rest = [] := by
    intro ps
    induction ps with
    | nil =>
      intro fs k h1 _ _
      have : fs = [] := by cases fs <;> simp at h1 ⊢
      subst this
      exact ⟨[], by simp [RepLL], fun pre post _ hp => ⟨[], by have : post = [] := List.eq_nil_of_length_eq_zero (by simpa using hp); subst this; simp [Instr.fill], rfl⟩⟩
    | cons p ps ih =>
      intro fs k h1 h2 h3
      cases fs with
      | nil => simp at h1
      | cons f fs =>
        simp only [List.map_cons, List.cons.injEq] at h1
        obtain ⟨us, g1, g2, g3⟩ := cellsD_sound h1.1 (aval_rep hr p.2)
        have hfl := h2 f (by simp)
        have hul := g2.length
        have hp1 : p.1 = k := by
          have := congrArg List.head? h3
          simpa [List.range_succ_eq_map] using this
        obtain ⟨us', i1, i2⟩ := ih fs (k + 1) h1.2 (fun x hx => h2 x (by simp [hx])) (by
          have := congrArg List.tail h3
          simp only [List.map_cons, List.length_cons, List.range_succ_eq_map, List.tail_cons, List.map_map] at this
          rw [this]
          apply List.map_congr_left
          intro x _
          simp; omega)
        refine ⟨us ++ us', by simp only [RepLL]; exact ⟨us, us', rfl, hfl, ⟨g2, g3⟩, i1⟩, fun pre post hpre hpost => ?_⟩
        simp only [List.length_cons] at hpost
        have hpost2 : post.length = sz + ps.length * sz := by rw [hpost, Nat.add_mul]; omega
        obtain ⟨rest, j1, j2⟩ := i2 (pre ++ us) (post.drop sz) (by rw [List.length_append, hpre, hul, hfl, Nat.add_mul]; omega) (by rw [List.length_drop]; omega)
        refine ⟨rest, ?_, j2⟩
        simp only [List.map_cons, Instr.fill, hp1, g1]
        simp only [List.size_toArray]
        rw [if_neg (by simp; omega)]
        have sp := splice (k * sz) us 0 pre (post.take sz) (post.drop sz) (by omega) (by simp; omega)
        have e0 : pre ++ post.take sz ++ post.drop sz = pre ++ post := by rw [List.append_assoc, List.take_append_drop]
        rw [e0] at sp
        have e1 : us.toArray.zipIdx.foldl (fun (x : Array Value) (p : Value × Nat) => x.setIfInBounds (k * sz + p.2) p.1) (pre ++ post).toArray = (pre ++ us ++ post.drop sz).toArray := by
          rw [← sp]; simp
        have e2 : (pre ++ us ++ us' ++ rest) = (pre ++ (us ++ us') ++ rest) := by simp
        rw [← e2, ← j1]
        congr 1
  have hpl : parts.toList.length = n := by
    have h1 := congrArg List.length hlen
    simpa using h1
  obtain ⟨us, k1, k2⟩ := key parts.toList es 0 hes hes2 (by rw [hlen, hpl]; simp)
  obtain ⟨rest, k3, k4⟩ := k2 [] ((List.range (n * sz)).map (fun i => us0.toArray[i % us0.toArray.size]!)) (by simp) (by simp [hpl])
  subst k4
  simp only [List.nil_append, List.append_nil] at k3
  obtain ⟨G', e1, s1, c1, c2, c3⟩ := hs.alloc_tk us [] e n n sz (by rw [k1.length, hnl]) (Nat.le_refl _) (by rw [k1.length, hnl]; simp) (by have := Nat.le_mul_of_pos_right n hpos; omega)
  rw [List.append_nil] at s1
  refine ⟨_, _, G', _, _, ?_, e1, s1, .inr ⟨.slice (some ⟨w.heap.size, 0, none⟩) n n, rfl, ?_⟩, h _ c3⟩
  · simp only [execOp, hop]
    refine wrap_v' ?_
    have hne : ¬ (16777216 < n * sz) := by omega
    have hfill : Instr.fill (fun i => some (i * sz, sz)) ((Array.range (n * sz)).map (fun i => us0.toArray[i % us0.toArray.size]!)) (parts.map fun (x : Nat × Operand) => (x.1, a.eval x.2)).toList = some us.toArray := by
      rw [← k3]
      congr 1
      · apply Array.ext'
        simp
      · simp
    by_cases hn0 : n = 0
    · subst hn0
      have hp0 : parts.toList = [] := List.eq_nil_of_length_eq_zero hpl
      have hpa : parts = #[] := by apply Array.ext'; simpa using hp0
      have he0 : es = [] := List.eq_nil_of_length_eq_zero hnl
      subst he0
      have hu0 : us = [] := by simpa [RepLL] using k1
      subst hu0
      simp [Instr.buildSlice, run_underlying (elemT_underlying he), run_sizeOf hsz, newRow, hpa, Instr.fill]
      have e0 : (Array.range 0 : Array Nat) = #[] := rfl
      simp [e0]
    · have hnz : ¬ (n * sz = 0) := by
        intro hh
        rcases Nat.mul_eq_zero.1 hh with h | h <;> omega
      simp only [Instr.buildSlice, Sem.run_bind, run_underlying (elemT_underlying he), Result.andThen_ok, run_sizeOf hsz]
      rw [if_neg (by simpa using hne)]
      simp only [Sem.run_bind, Sem.run_ite, if_neg hnz, hz1, Result.andThen_ok, Sem.run_pure, hz2]
      simp only [hfill, Sem.run_bind, newRow, run_newObj, Result.andThen_ok, Sem.run_pure, World.alloc_eq]
  · simp only [Rep]
    exact ⟨_, n, by rw [hnl], by rw [hnl]; exact Nat.le_refl _, fun t' ht' => by cases ht'; rw [hnl]; exact c2, .inr ⟨_, us, rfl, rfl, k1.ext e1, c1⟩⟩
/-- What a function hands back. -/
def LoadD (P : Program) (cs : List D) (o : Nat) (t : TypeId) (d : D) : Prop :=
  (aggT P t = some true ∧ ∃ n, cellsN P t = some n ∧ o + n ≤ cs.length ∧ d = .ag ((cs.drop o).take n)) ∨ (aggT P t = some false ∧ cs[o]? = some d)
inductive ResD (P : Program) (S : Store) (sl : List D) : List ResultVar → List D → Prop
  | nil : ResD P S sl [] []
  | tmp {t : Nat} {r : List ResultVar} {l : List D} : ResD P S sl r l → ResD P S sl (.tmp t :: r) (sl.getD t .any :: l)
  | ob {x t k o T : Nat} {cs : List D} {d : D} {r : List ResultVar} {l : List D} : sl.getD x .any = .ob k o → S.ob k = some (.cells T cs) → LoadD P cs o t d → ResD P S sl r l → ResD P S sl (.cell x t :: r) (d :: l)
def resD (sl : List D) : List ResultVar → Option (List D)
  | [] => some []
  | .tmp t :: r => (resD sl r).map fun l => sl.getD t .any :: l
  | .cell _ _ :: _ => none
theorem ResD.of {P : Program} {S : Store} {sl : List D} : ∀ {rs : List ResultVar} {l : List D}, resD sl rs = some l → ResD P S sl rs l
  | [], l, h => by simp only [resD] at h; cases h; exact .nil
  | .tmp t :: r, l, h => by
    simp only [resD, Option.map_eq_some_iff] at h
    obtain ⟨l', h1, rfl⟩ := h
    exact .tmp (ResD.of h1)
  | .cell _ _ :: _, _, h => by simp [resD] at h
def packD : List D → D
  | [d] => d
  | l => .tup l
def retQ (P : Program) (fn : Func) (R : D → Store → Prop) (e : Exit) (sl : List D) (S : Store) : Prop :=
  match e with
  | .normal | .ret => ∃ l r S', ResD P S sl fn.results.toList l ∧ (packD l).le r ∧ S.le S' ∧ R r S'
  | _ => False

def resOf (a : Act) (x : ResultVar) : Sem Value :=
  match x with
  | .tmp t => pure (a.tmps.getD t undef)
  | .cell x t => do loadVar t (← asAddr (a.tmps.getD x undef))
theorem results_eq (fn : Func) (a : Act) : results fn a.tmps = (do
    let vs ← fn.results.mapM (resOf a)
    pure (if h : vs.size = 1 then vs[0] else .tuple vs)) := rfl
theorem mapM_results {P : Program} {G : Gh} {S : Store} {w : World} {a : Act} {sl : List D} (hs : Sim S G w) (hr : RepL G sl a.tmps.toList) : ∀ (rs : List ResultVar) (l : List D), ResD P S sl rs l →
    ∃ vs, (rs.mapM (resOf a)).run P w = Result.ok vs w ∧ RepL G l vs
  | _, _, .nil => ⟨[], by simp, by simp [RepL]⟩
  | _, _, .tmp (t := t) h1 => by
    obtain ⟨vs, h2, h3⟩ := mapM_results (P := P) hs hr _ _ h1
    refine ⟨a.tmps.getD t undef :: vs, ?_, ?_⟩
    · simp [List.mapM_cons, h2, resOf]
    · simp only [RepL]; exact ⟨_, _, rfl, aval_rep hr (.tmp t), h3⟩
  | _, _, .ob (x := x) (t := t) hx hk hl h1 => by
    obtain ⟨vs, h2, h3⟩ := mapM_results (P := P) hs hr _ _ h1
    have ha : Rep G (sl.getD x .any) (a.tmps.getD x undef) := aval_rep hr (.tmp x)
    rw [hx] at ha
    obtain ⟨v, h4, h5⟩ := loadAt_ob (P := P) hs hk ha hl
    refine ⟨v :: vs, ?_, ?_⟩
    · have : (resOf a (.cell x t)).run P w = .ok v w := by
        have ha' := ha
        simp only [Rep] at ha'
        obtain ⟨b, hb, _⟩ := ha'
        simp only [resOf]
        rw [hb] at h4 ⊢
        simpa [Instr.loadAt, Instr.sureAddr, asAddr] using h4
      simp [List.mapM_cons, h2, this]
    · simp only [RepL]; exact ⟨_, _, rfl, h5, h3⟩

theorem acalls_of {f : FuncId} {fn : Func} {c : Code} {args : List D} {R : D → Store → Prop} {S : Store} (hf : P.funcs[f]? = some fn) (hb : fn.body = some c)
    (h : AT P c (retQ P fn R) (args ++ List.replicate (fn.ntmps - args.length) .any) S) : ACalls P f args S R := by
  intro G w vs hs ha
  refine calls_of_wp hf hb (wp_mono (h G w _ hs ?_ rfl) ?_)
  · simp only [Array.toList_append, Array.toList_replicate]
    refine ha.append ?_
    have := ha.length
    simp only [Array.length_toList] at this
    rw [this]
    have h2 := RepL.any (G := G) (List.replicate (fn.ntmps - args.length) undef)
    simpa using h2
  · intro e a w' hq
    have key : (∃ G' sl' S', Ext G G' ∧ Sim S' G' w' ∧ RepL G' sl' a.tmps.toList ∧ a.defers = [] ∧ ∃ l r S'', ResD P S' sl' fn.results.toList l ∧ (packD l).le r ∧ S'.le S'' ∧ R r S'') →
        a.defers = [] ∧ ∃ v, (results fn a.tmps).run P w' = .ok v w' ∧ ∃ v1 r S' G', Ending.returned v = .returned v1 ∧ Ext G G' ∧ Sim S' G' w' ∧ Rep G' r v1 ∧ R r S' := by
      rintro ⟨G', sl', S', h1, h2, h3, h4, l, r, S'', h5, h6, h7, h8⟩
      obtain ⟨ws, h9, h10⟩ := mapM_results (P := P) (w := w') h2 h3 _ _ h5
      refine ⟨h4, (if hw : ws.toArray.size = 1 then ws.toArray[0] else .tuple ws.toArray), ?_, _, r, S'', G', rfl, h1, h2.le h7, h6 G' _ ?_, h8⟩
      · rw [results_eq]
        have : (fn.results.mapM (resOf a)).run P w' = .ok ws.toArray w' := by
          rw [← Array.toArray_toList (xs := fn.results), List.mapM_toArray]
          simp only [Sem.run_map, h9, Result.andThen_ok]
        rw [Sem.run_bind, this]
        rfl
      · have hl := h10.length
        cases l with
        | nil => simp only [RepL] at h10; subst h10; simp [packD, Rep, RepL]
        | cons d l =>
          cases l with
          | nil =>
            simp only [RepL] at h10
            obtain ⟨x, r', rfl, hx, rfl⟩ := h10
            simpa [packD] using hx
          | cons d2 l =>
            simp only [List.length_cons] at hl
            have : ¬ ws.toArray.size = 1 := by simp; omega
            rw [dif_neg this]
            simp only [packD, Rep]
            exact ⟨ws, rfl, h10⟩
    cases e <;> simp only [liftQ, retQ, bodyPost, and_false, exists_false] at hq ⊢
    · exact key hq
    · exact key hq
end Go.Proofs.Ytfaojkajlpojlaa.Abs
