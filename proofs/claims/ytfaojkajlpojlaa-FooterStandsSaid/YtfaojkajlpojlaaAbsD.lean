/- What is computed of an operation is what the machine does. -/
import Derived.Test.YtfaojkajlpojlaaAbsC
import Derived.Laws.StructEq
namespace Go.Proofs.Ytfaojkajlpojlaa.Abs
open Go Go.RowKit

variable {P : Program}

def Holds (G : Gh) (w : World) : Prop := ∀ b o v, G.im b o = some v → w.cell? ⟨b, o, none⟩ = some v

theorem lit_of {G : Gh} {sl : List D} {a : Act} (hr : RepL G sl a.tmps.toList) {x : Operand} {v : Value} (h : aval sl x = .lit v) : a.eval x = v := by
  have := aval_rep hr x
  rw [h] at this
  simpa only [Rep] using this

theorem lenAny_eq (a : Array TypeId) : True := trivial

theorem placesD_sound {G : Gh} {sl : List D} {a : Act} (hr : RepL G sl a.tmps.toList) {t : TypeId} {fs : Array Field} (hu : P.underlying t = some (.struct fs)) :
    ∀ (ps : List (Nat × Operand)) (l : List (Nat × Nat × List D)), placesD P t sl ps = some l →
      l.length = ps.length ∧ ∀ (i : Nat) (x : Nat × Nat × List D), l[i]? = some x → ∃ (j : Nat) (o : Operand) (us : List Value) (f : Field), ps[i]? = some (j, o) ∧ fs[j]? = some f ∧ f.offset = x.1 ∧ cellsN P f.type = some x.2.1 ∧ (a.eval o).cells = us.toArray ∧ RepL G x.2.2 us ∧ One us
  | [], l, h => by simp only [placesD, Option.some.injEq] at h; subst h; simp
  | (j, o) :: ps, l, h => by
    simp only [placesD, hu] at h
    cases hf : fs[j]? with
    | none => simp [hf] at h
    | some f =>
      cases hc : cellsD (aval sl o) with
      | none => simp [hf, hc] at h
      | some cs =>
        simp only [hf, hc, Option.bind_eq_some_iff, Option.map_eq_some_iff] at h
        obtain ⟨n, h1, l', h2, rfl⟩ := h
        obtain ⟨h3, h4⟩ := placesD_sound hr hu ps l' h2
        refine ⟨by simp [h3], fun i x hx => ?_⟩
        cases i with
        | zero =>
          simp at hx
          subst hx
          obtain ⟨us, h5, h6⟩ := cellsD_sound hc (aval_rep hr o)
          exact ⟨j, o, us, f, by simp, hf, rfl, h1, h5, h6⟩
        | succ i =>
          simp at hx
          obtain ⟨j', o', us, f', h5, h6⟩ := h4 i x hx
          exact ⟨j', o', us, f', by simpa using h5, h6⟩

theorem placesD_sound_arr {G : Gh} {sl : List D} {a : Act} (hr : RepL G sl a.tmps.toList) {t e : TypeId} {len : Nat} (hu : P.underlying t = some (.array len e)) :
    ∀ (ps : List (Nat × Operand)) (l : List (Nat × Nat × List D)), placesD P t sl ps = some l →
      l.length = ps.length ∧ ∀ (i : Nat) (x : Nat × Nat × List D), l[i]? = some x → ∃ (j : Nat) (o : Operand) (us : List Value) (n : Nat), ps[i]? = some (j, o) ∧ cellsN P e = some n ∧ j * n = x.1 ∧ n = x.2.1 ∧ (a.eval o).cells = us.toArray ∧ RepL G x.2.2 us ∧ One us
  | [], l, h => by simp only [placesD, Option.some.injEq] at h; subst h; simp
  | (j, o) :: ps, l, h => by
    simp only [placesD, hu] at h
    cases hc : cellsD (aval sl o) with
    | none => simp [hc] at h
    | some cs =>
      simp only [hc, Option.bind_eq_some_iff, Option.map_eq_some_iff] at h
      obtain ⟨n, h1, l', h2, rfl⟩ := h
      obtain ⟨h3, h4⟩ := placesD_sound_arr hr hu ps l' h2
      refine ⟨by simp [h3], fun i x hx => ?_⟩
      cases i with
      | zero =>
        simp at hx
        subst hx
        obtain ⟨us, h5, h6⟩ := cellsD_sound hc (aval_rep hr o)
        exact ⟨j, o, us, n, by simp, h1, rfl, rfl, h5, h6⟩
      | succ i =>
        simp at hx
        obtain ⟨j', o', us, n', h5, h6⟩ := h4 i x hx
        exact ⟨j', o', us, n', by simpa using h5, h6⟩

theorem mapM_places {fs : Array Field} (hz : ∀ f ∈ fs.toList, ∃ n, cellsN P f.type = some n) (w : World) :
    (fs.mapM fun f => do pure (f.offset, ← sizeOf f.type) : Sem (Array (Nat × Nat))).run P w = .ok (fs.map fun f => (f.offset, (cellsN P f.type).getD 0)) w := by
  rw [← Array.toArray_toList (xs := fs), List.mapM_toArray]
  have key : ∀ l : List Field, (∀ f ∈ l, ∃ n, cellsN P f.type = some n) → (l.mapM fun f => do pure (f.offset, ← sizeOf f.type) : Sem (List (Nat × Nat))).run P w = .ok (l.map fun f => (f.offset, (cellsN P f.type).getD 0)) w := by
    intro l
    induction l with
    | nil => intro _; simp
    | cons f l ih =>
      intro hl
      obtain ⟨n, hn⟩ := hl f (by simp)
      simp only [List.mapM_cons, Sem.run_bind, run_sizeOf hn, Result.andThen_ok, Sem.run_pure, ih (fun g hg => hl g (by simp [hg])), List.map_cons, hn, Option.getD_some]
  simp only [Sem.run_map, key fs.toList hz, Result.andThen_ok]
  congr 1
  apply Array.ext'
  simp

theorem build_sound {G : Gh} {sl : List D} {a : Act} (hr : RepL G sl a.tmps.toList) {t : TypeId} {parts : Array (Nat × Operand)} {z : Value} {l : List (Nat × Nat × List D)} {cs : List D}
    (hz : (P.info? t).bind (·.zero) = some z) (hl : placesD P t sl parts.toList = some l) (hf : fillD (z.cells.toList.map .lit) l = some cs)
    (hok : buildOk P t = true) (hone : z.cells.all (·.oneCell') = true) (w : World) :
    ∃ v, (Instr.build t (parts.map fun (i, x) => (i, a.eval x))).run P w = .ok v w ∧ Rep G (.ag cs) v := by
  have hzr : (zeroValue t).run P w = .ok z w := by
    cases hi : P.info? t with
    | none => simp [hi] at hz
    | some i => simp [hi] at hz; simp [zeroValue, typeInfo, hi, hz]
  have hz2 : RepL G (z.cells.toList.map .lit) z.cells.toList := lits_rep _
  have hz3 : One z.cells.toList := fun v hv => Array.all_eq_true'.1 hone v (by simpa using hv)
  have hps : (parts.map fun (x : Nat × Operand) => (x.1, a.eval x.2)).toList = parts.toList.map fun x => (x.1, a.eval x.2) := by simp
  unfold buildOk at hok
  cases hu : P.underlying t with
  | none => simp [hu] at hok
  | some d =>
    cases d <;> simp only [hu, Bool.false_eq_true] at hok
    case struct fs =>
      have hsz : ∀ f ∈ fs.toList, ∃ n, cellsN P f.type = some n := fun f hf => by
        have := List.all_eq_true.1 hok f hf
        exact Option.isSome_iff_exists.1 this
      obtain ⟨h1, h2⟩ := placesD_sound hr hu _ _ hl
      obtain ⟨ws, h3, h4⟩ := fill_sound (place := fun i => (fs.map fun f => (f.offset, (cellsN P f.type).getD 0))[i]?) l (parts.toList.map fun x => (x.1, a.eval x.2)) _ _ cs
        (fun i x hx => by
          obtain ⟨j, o, us, f, h5, h6, h7, h8, h9, h10⟩ := h2 i x hx
          exact ⟨j, a.eval o, us, by simp [h5], by simp [h6, h7, h8], h9, h10⟩) (by simp [h1]) hf hz2 hz3
      refine ⟨.agg ws.toArray, ?_, by simp only [Rep]; exact ⟨ws, rfl, h4⟩⟩
      simp only [Instr.build, Sem.run_bind, hzr, Result.andThen_ok, run_underlying hu, mapM_places hsz, hps]
      simp only [Array.toArray_toList] at h3
      rw [h3]
      rfl
    case array n e =>
      obtain ⟨h1, h2⟩ := placesD_sound_arr hr hu _ _ hl
      obtain ⟨k, hk⟩ : ∃ k, cellsN P e = some k := Option.isSome_iff_exists.1 hok
      obtain ⟨ws, h3, h4⟩ := fill_sound (place := fun i => some (i * k, k)) l (parts.toList.map fun x => (x.1, a.eval x.2)) _ _ cs
        (fun i x hx => by
          obtain ⟨j, o, us, n', h5, h6, h7, h8, h9, h10⟩ := h2 i x hx
          rw [hk] at h6
          cases h6
          exact ⟨j, a.eval o, us, by simp [h5], by simp [h7, ← h8], h9, h10⟩) (by simp [h1]) hf hz2 hz3
      refine ⟨.agg ws.toArray, ?_, by simp only [Rep]; exact ⟨ws, rfl, h4⟩⟩
      simp only [Instr.build, Sem.run_bind, hzr, Result.andThen_ok, run_underlying hu, run_sizeOf hk, hps]
      simp only [Array.toArray_toList] at h3
      rw [h3]
      rfl

theorem wrap_v {r : Value} {s : Sem Value} {w : World} (h : s.run P w = .ok r w) : (do pure (.value (← s)) : Sem Next).run P w = .ok (.value r) w := by
  simp only [Sem.run_bind, h, Result.andThen_ok, Sem.run_pure]

theorem index_sound {G : Gh} {w : World} {t e : TypeId} {sz : Nat} {es : List (List D)} {tl : Option Nat} {n : Int} {k : IntKind} {v : Value} (he : elemT P t = some e) (hs : cellsN P e = some sz)
    (hr : Rep G (.sl sz es tl) v) (h0 : 0 ≤ n) (h1 : n < es.length) : ∃ r, (Instr.indexAt t v (.int k n)).run P w = .ok r w ∧ Rep G (.pt (es.getD n.toNat [])) r := by
  simp only [Rep] at hr
  obtain ⟨A, c, rfl, h2, -, h4⟩ := hr
  rcases h4 with h4 | ⟨a, vs, h5, h6, h7, h8⟩
  · subst h4; simp at h1; omega
  · subst h5
    have hu : P.underlying t = some (.slice e) := by
      unfold elemT at he
      split at he
      · rename_i x hx; cases he; exact hx
      · cases he
    have hlt : n.toNat < es.length := by omega
    obtain ⟨h9, x, h10, h11⟩ := h7.get n.toNat es[n.toNat] (List.getElem?_eq_getElem hlt)
    refine ⟨.pointer (some (a.add (n.toNat * sz))), ?_, ?_⟩
    · simp only [Instr.indexAt, asIntOf, Sem.run_bind, Sem.run_pure, Result.andThen_ok, run_underlying hu]
      rw [if_pos ⟨h0, h1⟩]
      simp only [Sem.run_bind, run_sizeOf hs, Result.andThen_ok, Sem.run_pure]
    · simp only [Rep]
      refine ⟨_, x, rfl, by rw [addr_add _ _ h6], ?_, ?_⟩
      · rw [getD_eq, List.getElem?_eq_getElem hlt]; exact h10
      · intro i u hu'
        have := h8 _ _ (h11 i u hu')
        rw [addr_add _ _ h6]
        simp only
        rw [Nat.add_assoc]; exact this

theorem loadPt_sound {G : Gh} {w : World} (hw : Holds G w) {t : TypeId} {cs : List D} {v : Value} (hr : Rep G (.pt cs) v) :
    (aggT P t = some true → cellsN P t = some cs.length → ∃ r, (Instr.loadAt t v).run P w = .ok r w ∧ Rep G (.ag cs) r) ∧
    (aggT P t = some false → 0 < cs.length → ∃ r, (Instr.loadAt t v).run P w = .ok r w ∧ Rep G (cs.getD 0 .any) r) := by
  simp only [Rep] at hr
  obtain ⟨a, vs, rfl, h2, h3, h4⟩ := hr
  have hc := rep_cells hw h4
  constructor
  · intro ha hn
    refine ⟨.agg vs.toArray, ?_, by simp only [Rep]; exact ⟨vs, rfl, h3⟩⟩
    have hl := h3.1.length
    simp only [Instr.loadAt, Instr.sureAddr, loadVar, Sem.run_bind, Sem.run_pure, Result.andThen_ok, run_isAgg ha, Sem.run_ite, if_true, run_sizeOf hn]
    rw [loadCells_run h2 _ (by omega) hc, ← hl, List.take_length]
    rfl
  · intro ha hp
    cases cs with
    | nil => simp at hp
    | cons d cs =>
      have h3 := h3.1
      simp only [RepL] at h3
      obtain ⟨x, r, rfl, h5, h6⟩ := h3
      refine ⟨x, ?_, by simpa using h5⟩
      have h7 := hc 0 x (by simp)
      have h8 : a = ⟨a.block, a.off + 0, none⟩ := by cases a; simp at h2; simp [h2]
      rw [← h8] at h7
      simp only [Instr.loadAt, Instr.sureAddr, loadVar, Sem.run_bind, Sem.run_pure, Result.andThen_ok, run_isAgg ha, Sem.run_ite, Bool.false_eq_true, if_false, run_load, h7]

theorem fieldPt_sound {G : Gh} {w : World} {t : TypeId} {i : Nat} {f : Field} {cs : List D} {v : Value} {n : Nat} (hf : fieldOf P t i = some f) (hn : cellsN P f.type = some n) (hz : n ≠ 0) (hr : Rep G (.pt cs) v) :
    ∃ r, (Instr.fieldAt t v i).run P w = .ok r w ∧ Rep G (.pt ((cs.drop f.offset).take n)) r := by
  simp only [Rep] at hr
  obtain ⟨a, vs, rfl, h2, h3, h4⟩ := hr
  unfold fieldOf at hf
  split at hf
  · rename_i fs hu
    refine ⟨.pointer (some (a.add f.offset)), ?_, ?_⟩
    · simp only [Instr.fieldAt, Sem.run_bind, run_underlying hu, Result.andThen_ok, hf, Instr.sureAddr, Sem.run_pure, fieldPlace, run_sizeOf hn, Sem.run_ite, if_neg hz]
    · simp only [Rep]
      exact ⟨_, _, rfl, by rw [addr_add _ _ h2], ⟨(h3.1.drop _).take n, (h3.2.drop _).take n⟩, Gh.has_take (Gh.has_drop h4 _ _ (by rw [addr_add _ _ h2]) (by rw [addr_add _ _ h2])) n⟩
  · cases hf

theorem fieldOb_sound {G : Gh} {w : World} {t : TypeId} {i : Nat} {f : Field} {b o : Nat} {v : Value} {n : Nat} (hf : fieldOf P t i = some f) (hn : cellsN P f.type = some n) (hz : n ≠ 0) (hr : Rep G (.ob b o) v) :
    ∃ r, (Instr.fieldAt t v i).run P w = .ok r w ∧ Rep G (.ob b (o + f.offset)) r := by
  simp only [Rep] at hr
  obtain ⟨k, rfl, h2⟩ := hr
  unfold fieldOf at hf
  split at hf
  · rename_i fs hu
    refine ⟨.pointer (some ⟨k, o + f.offset, none⟩), ?_, ?_⟩
    · simp only [Instr.fieldAt, Sem.run_bind, run_underlying hu, Result.andThen_ok, hf, Instr.sureAddr, Sem.run_pure, fieldPlace, run_sizeOf hn, Sem.run_ite, if_neg hz]
      rw [addr_add _ _ rfl]
    · simp only [Rep]; exact ⟨k, rfl, h2⟩
  · cases hf

theorem eqT_sound {G : Gh} : ∀ (n : Nat) (t : TypeId) (x y : D) (b : Bool), eqT P n t x y = some b → ∀ (vx vy : Value), Rep G x vx → Rep G y vy → ∀ d, n ≤ d → ∀ w, (Op.equalIn d t vx vy).run P w = .ok b w
  | 0, _, _, _, _, h => by simp [eqT] at h
  | n + 1, t, x, y, b, h => by
    intro vx vy hx hy d hd w
    obtain ⟨d, rfl⟩ : ∃ e, d = e + 1 := ⟨d - 1, by omega⟩
    simp only [eqT] at h
    split at h
    · rename_i k hu
      split at h
      · rename_i k1 a k2 b'
        split at h
        · rename_i hk
          subst hk
          cases h
          simp only [Rep] at hx hy
          subst hx hy
          exact run_equalIn_int w d t _ _ a b' hu
        · cases h
      · cases h
    · rename_i hu
      split at h
      · rename_i a b'
        cases h
        simp only [Rep] at hx hy
        subst hx hy
        exact run_equalIn_bool' w d t a b' hu
      · cases h
    · rename_i hu
      split at h
      · rename_i a b'
        cases h
        simp only [Rep] at hx hy
        subst hx hy
        rw [← ByteArray.toList_eq, ← ByteArray.toList_eq]
        exact run_equalIn_string w d t a b' hu
      · cases h
    · rename_i fs hu
      split at h
      · rename_i xs ys
        split at h
        · cases h
        · rename_i hst
          simp only [Rep] at hx hy
          obtain ⟨us, rfl, h1, h2⟩ := hx
          obtain ⟨ws, rfl, h3, h4⟩ := hy
          have hf : P.fieldsOf t = fs := by simp [Program.fieldsOf, hu]
          rw [run_equalIn_struct (P := P) w d t _ _ (by rw [hf]; exact hu) (by simpa using hst), hf]
          generalize fs.toList = l at h
          clear hf hu
          induction l generalizing b with
          | nil => simp only [List.foldr_nil, Option.some.injEq] at h; subst h; simp [Op.eqFields]
          | cons f l ih =>
            simp only [List.foldr_cons] at h
            split at h
            · rename_i hn
              rw [Op.eqFields, if_neg (by simpa using hn)]
              exact ih _ h
            · rename_i hn
              split at h
              · rename_i p q hp hq
                simp only [Option.bind_eq_some_iff, Option.map_eq_some_iff] at h
                obtain ⟨e, he, s, hs, rfl⟩ := h
                obtain ⟨v1, g1, g2⟩ := part_rep hp h1 h2 w
                obtain ⟨v2, g3, g4⟩ := part_rep hq h3 h4 w
                have g5 := eqT_sound n f.type p q e he v1 v2 g2 g4 d (by omega) w
                rw [Op.eqFields, if_pos hn]
                simp only [Sem.run_bind, g1, g3, g5, Result.andThen_ok]
                cases e
                · simp
                · simpa using ih _ hs
              · cases h
      · cases h
    · cases h
end Go.Proofs.Ytfaojkajlpojlaa.Abs
