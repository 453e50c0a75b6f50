/- Rows whose room is known: cap, slices up to the room, an append of zeros (slices.Grow). -/
import Derived.Test.YtfaojkajlpojlaaAbsV
namespace Go.Proofs.Ytfaojkajlpojlaa.Abs
open Go Go.RowKit

variable {P : Program} {Q : Exit → List D → Store → Prop} {sl : List D} {S : Store} {G : Gh} {w : World}

theorem cap_le {c : Nat} {d : D} : (D.cap c d).le d := fun G v h => by simp only [Rep] at h; exact h.1
/-- The room of a row gets a name. -/
theorem AT_know {co : Code} (i : Nat) {sz tk : Nat} {es : List (List D)} (hi : sl[i]? = some (.sl sz es (some tk))) (htk : S.tk tk = some (es.length, sz)) (hb : es.length ≤ 9223372036854775807) (h : ∀ c, es.length ≤ c → c ≤ 9223372036854775807 → AT P co Q (sl.set i (.cap c (.sl sz es (some tk)))) S) : AT P co Q sl S := by
  intro G w a hs hr hd
  obtain ⟨v, h1, h2⟩ := hr.get _ _ hi
  have h2' := h2
  simp only [Rep] at h2'
  obtain ⟨A, c, rfl, h3, hth, _⟩ := h2'
  have hcb : c ≤ 9223372036854775807 := by
    obtain ⟨A2, c2, g1, g2, g3, g4⟩ := hs.tok tk _ _ htk
    rw [hth tk rfl] at g1
    cases g1
    rcases Nat.lt_or_ge es.length c with hlt | hge
    · obtain ⟨_, _, _, _, _, ⟨_, _, _, _, h10, _⟩, _⟩ := g3 hlt
      exact h10.2
    · omega
  have h4 : Rep G (.cap c (.sl sz es (some tk))) (.slice A es.length c) := by simp only [Rep] at h2 ⊢; exact ⟨h2, A, _, rfl⟩
  have := hr.set i _ _ h4
  have e : a.tmps.toList.set i (.slice A es.length c) = a.tmps.toList := by
    apply List.ext_getElem?
    intro j
    rw [List.getElem?_set]
    split
    · rename_i e
      subst e
      split
      · exact h1.symm
      · rename_i hlt; rw [List.getElem?_eq_none (by omega)] at h1; cases h1
    · rfl
  rw [e] at this
  exact h c h3 hcb G w a hs this hd

theorem AOps_cap {ops : Array Oper} {i : Nat} {l : List Nat} {o : Oper} {t e c : Nat} {x : Operand} {d : D} (ho : ops[i]? = some o) (hw : awanted ops sl o = some true) (hop : o.op = .call { callee := .builtin .cap, args := #[x], argTypes := #[t] })
    (ht : P.underlying t = some (.slice e)) (hx : aval sl x = .cap c d) (h : AOps P ops Q l (aput sl o.dst (i64 c)) S) : AOps P ops Q (i :: l) sl S := by
  refine AOps_one ho hw fun G w a hs hr hdf => ?_
  have h1 := aval_rep hr x
  rw [hx] at h1
  simp only [Rep] at h1
  obtain ⟨_, A, n, h2⟩ := h1
  have e : (#[x] : Array Operand).map a.eval = #[a.eval x] := by simp
  refine ⟨.value (.int .i64 c), w, G, i64 c, S, ?_, Ext.refl G, hs, .inr ⟨_, rfl, by simp [Rep]⟩, h⟩
  simp only [execOp, hop, resolve, Sem.run_bind, Sem.run_pure, Result.andThen_ok, invoke, builtin, e, h2]
  simp [Builtin.cap_, run_underlying ht, goInt]
theorem AOps_lenC {ops : Array Oper} {i : Nat} {l : List Nat} {o : Oper} {t e c sz : Nat} {x : Operand} {es : List (List D)} {tl : Option Nat} (ho : ops[i]? = some o) (hw : awanted ops sl o = some true) (hop : o.op = .call { callee := .builtin .len, args := #[x], argTypes := #[t] })
    (ht : P.underlying t = some (.slice e)) (hx : aval sl x = .cap c (.sl sz es tl)) (h : AOps P ops Q l (aput sl o.dst (i64 es.length)) S) : AOps P ops Q (i :: l) sl S := by
  refine AOps_one ho hw fun G w a hs hr hdf => ?_
  have h1 := aval_rep hr x
  rw [hx] at h1
  have h1 := cap_le _ _ h1
  obtain ⟨A, c', h2, _⟩ := sl_val h1
  have e : (#[x] : Array Operand).map a.eval = #[a.eval x] := by simp
  refine ⟨.value (.int .i64 es.length), w, G, i64 es.length, S, ?_, Ext.refl G, hs, .inr ⟨_, rfl, by simp [Rep]⟩, h⟩
  simp only [execOp, hop, resolve, Sem.run_bind, Sem.run_pure, Result.andThen_ok, invoke, builtin, e, h2]
  simp [Builtin.len_, run_underlying ht, goInt]
/-- s[:cap(s)] -/
theorem AOps_sliceC {ops : Array Oper} {i : Nat} {l : List Nat} {o : Oper} {t e c sz tk : Nat} {x hi : Operand} {es : List (List D)} (ho : ops[i]? = some o) (hw : awanted ops sl o = some true) (hop : o.op = .slice t x none (some hi) none)
    (ht : P.underlying t = some (.slice e)) (hc : cellsN P e = some sz) (hx : aval sl x = .cap c (.sl sz es (some tk))) (hh : aval sl hi = i64 c) (h : AOps P ops Q l (aput sl o.dst (.wd sz es tk c c)) S) : AOps P ops Q (i :: l) sl S := by
  refine AOps_one ho hw fun G w a hs hr hdf => ?_
  have h1 := aval_rep hr x
  rw [hx] at h1
  simp only [Rep] at h1
  obtain ⟨⟨A, c', h2, h3, h4, h5⟩, A2, n2, h6⟩ := h1
  rw [h6] at h2
  cases h2
  have h7 := lit_of hr hh
  refine ⟨.value (.slice A c c), w, G, .wd sz es tk c c, S, ?_, Ext.refl G, hs, .inr ⟨_, rfl, ?_⟩, h⟩
  · simp only [execOp, hop]
    refine wrap_v ?_
    rw [h6]
    have e7 : (some hi).map a.eval = some (a.eval hi) := rfl
    rw [show (none : Option Operand).map a.eval = none from rfl, e7, h7]
    have hb := bound_run (P := P) (k := .i64) (n := (c : Int)) (y := c) (code := .sliceAcap) (by omega) (by omega) w
    simp [Instr.sliceAt, Instr.slice, run_underlying ht, Instr.sliceBounds, hb, run_sizeOf hc]
    cases A <;> simp [Addr.add]
  · simp only [Rep]
    exact ⟨A, rfl, h3, Nat.le_refl _, h4 tk rfl, h5⟩
/-- Back to what it holds. -/
theorem AOps_sliceB {ops : Array Oper} {i : Nat} {l : List Nat} {o : Oper} {t e m c sz tk : Nat} {x hi : Operand} {es : List (List D)} (ho : ops[i]? = some o) (hw : awanted ops sl o = some true) (hop : o.op = .slice t x none (some hi) none)
    (ht : P.underlying t = some (.slice e)) (hc : cellsN P e = some sz) (hx : aval sl x = .wd sz es tk m c) (hh : aval sl hi = i64 (es.length : Int)) (h : AOps P ops Q l (aput sl o.dst (.sl sz es (some tk))) S) : AOps P ops Q (i :: l) sl S := by
  refine AOps_one ho hw fun G w a hs hr hdf => ?_
  have h1 := aval_rep hr x
  rw [hx] at h1
  simp only [Rep] at h1
  obtain ⟨A, h2, h3, h4, h5, h6⟩ := h1
  have h7 := lit_of hr hh
  refine ⟨.value (.slice A es.length c), w, G, .sl sz es (some tk), S, ?_, Ext.refl G, hs, .inr ⟨_, rfl, ?_⟩, h⟩
  · simp only [execOp, hop]
    refine wrap_v ?_
    rw [h2]
    have e7 : (some hi).map a.eval = some (a.eval hi) := rfl
    rw [show (none : Option Operand).map a.eval = none from rfl, e7, h7]
    have hb := bound_run (P := P) (k := .i64) (n := (es.length : Int)) (y := c) (code := .sliceAcap) (by omega) (by omega) w
    simp [Instr.sliceAt, Instr.slice, run_underlying ht, Instr.sliceBounds, hb, run_sizeOf hc]
    cases A <;> simp [Addr.add]
  · simp only [Rep]
    exact ⟨A, c, rfl, by omega, fun t' ht' => by cases ht'; exact h5, h6⟩

/-- All cells of a row and of the room behind it. -/
theorem room_cells (hs : Sim S G w) {sz n c tk : Nat} {A : Option Addr} {es : List (List D)} (htk : S.tk tk = some (n, sz)) (hn : es.length = n) (hth : G.th tk n = some (A, c)) (hnc : n ≤ c) (hsz : 0 < sz)
    (hr : es = [] ∨ ∃ a vs, A = some a ∧ a.spot = none ∧ RepLL G sz es vs ∧ G.has a vs) :
    ∃ olds : List Value, (∀ k, (Builtin.firstCells sz c (.slice A c c)).run P (w.drewN k) = .ok olds.toArray (w.drewN k)) ∧ olds.length = c * sz ∧ RepLL G sz es (olds.take (n * sz)) := by
  obtain ⟨A2, c2, g1, g2, g3, g4⟩ := hs.tok tk _ _ htk
  rw [hth] at g1
  cases g1
  rcases Nat.lt_or_ge n c with hlt | hge
  · obtain ⟨a, rfl, h6, h7, h8, ⟨cs, E, fr, h9, h10, h11⟩, h12⟩ := g3 hlt
    have hcell : ∀ i v, ((cs.toList.drop a.off).take (c * sz))[i]? = some v → w.cell? ⟨a.block, a.off + i, none⟩ = some v := fun i v hv => by
      have : cs.toList[a.off + i]? = some v := by
        rw [List.getElem?_take] at hv
        split at hv
        · rw [List.getElem?_drop] at hv; exact hv
        · cases hv
      simp only [World.cell?, h9]
      simpa using this
    have hlen : ((cs.toList.drop a.off).take (c * sz)).length = c * sz := by simp; omega
    refine ⟨(cs.toList.drop a.off).take (c * sz), fun k => ?_, hlen, ?_⟩
    · have := loadCells_run (P := P) (w := w.drewN k) (vs := (cs.toList.drop a.off).take (c * sz)) h6 (c * sz) (by omega) (fun i v hv => by rw [World.cell?_drewN]; exact hcell i v hv)
      rw [List.take_of_length_le (by omega)] at this
      simp only [Builtin.firstCells]
      exact this
    · rcases hr with hr | ⟨a', vs, e1, h13, h14, h15⟩
      · subst hr
        simp only [List.length_nil] at hn
        subst hn
        simp [RepLL]
      · cases e1
        have hl := h14.length
        have : ((cs.toList.drop a.off).take (c * sz)).take (n * sz) = vs := by
          apply List.ext_getElem?
          intro j
          rcases Nat.lt_or_ge j vs.length with hj | hj
          · have h16 : vs[j]? = some vs[j] := List.getElem?_eq_getElem hj
            have h17 := hs.im _ _ _ (h15 j _ h16)
            have hjc : j < c * sz := Nat.lt_of_lt_of_le (by rw [hl, hn] at hj; exact hj) (Nat.mul_le_mul_right sz (Nat.le_of_lt hlt))
            have h18 : ((cs.toList.drop a.off).take (c * sz))[j]? = some ((cs.toList.drop a.off).take (c * sz))[j] := List.getElem?_eq_getElem (by omega)
            have h19 := hcell j _ h18
            rw [h17] at h19
            rw [h16, List.getElem?_take, if_pos (by rw [← hn, ← hl]; exact hj), h18, ← Option.some.inj h19]
          · rw [List.getElem?_eq_none hj, List.getElem?_eq_none]
            simp only [List.length_take]
            rw [hl, hn] at hj
            omega
        rw [this]
        exact h14
  · have hcn : c = n := by omega
    subst hcn
    rcases hr with hr | ⟨a', vs, e1, h13, h14, h15⟩
    · subst hr
      simp only [List.length_nil] at hn
      subst hn
      refine ⟨[], fun k => ?_, by simp, by simp [RepLL]⟩
      cases A <;> simp [Builtin.firstCells, loadCells, loadCellsFrom]
    · subst e1
      have hl := h14.length
      rw [hn] at hl
      refine ⟨vs, fun k => ?_, hl, by rw [List.take_of_length_le (by omega)]; exact h14⟩
      have := loadCells_run (P := P) (w := w.drewN k) (vs := vs) h13 (c * sz) (by omega) (fun i v hv => by rw [World.cell?_drewN]; exact hs.im _ _ _ (h15 i v hv))
      rw [List.take_of_length_le (by omega)] at this
      simp only [Builtin.firstCells]
      exact this

theorem run_appendZ {t t2 ty e : TypeId} {sz bytes c k : Nat} {kk : IntKind} {A : Option Addr} (ht : P.underlying t = some (.slice e)) (ht2 : P.underlying t2 = some (.int kk)) (hok : appOk P e sz bytes = true) (hk : 0 < k)
    (hfit : (c + k) * bytes ≤ 140737488355328) (h63 : c + k ≤ 9223372036854775807) (olds : List Value) (holds : ∀ j, (Builtin.firstCells sz c (.slice A c c)).run P (w.drewN j) = .ok olds.toArray (w.drewN j)) :
    ∃ c' rest, (c + k ≤ c' ∧ c' ≤ 9223372036854775807) ∧ rest.length = (c' - c) * sz ∧ (Builtin.append_ #[t, t2] ty #[.slice A c c, .int .i64 k]).run P w = .ok (.slice (some ⟨w.heap.size, 0, none⟩) (c + k) c') (w.drew.alloc (.cells (olds ++ rest).toArray e)) := by
  obtain ⟨i, z, h1, h2, h3, h4, h5, h6, h7⟩ := appOk_spec hok
  have o1 := holds 1
  have hd : w.drewN 1 = w.drew := rfl
  rw [hd] at o1
  have hn : ¬ (c + k ≤ c) := by omega
  have hfits := growslice_fits (need := c + k) (old := c) (by omega) hfit
  have h48' : ¬ (281474976710656 < Builtin.nextslicecap (c + k) c * i.bytes) := by rw [h3]; omega
  have hge := grownCap_ge w (c + k) c e
  have hmax : IntKind.i64.max = 9223372036854775807 := rfl
  have hbb : ¬ ((9223372036854775807 : Int) < (c : Int) + (k : Int)) := by omega
  have hwr : IntKind.wrap .i64 (k : Int) = k := IntWalk.i64_in _ ⟨by omega, by omega⟩
  have hneg : ¬ ((k : Int) < 0) := by omega
  have hkb : ¬ ((281474976710656 : Int) < (k : Int) * (bytes : Int)) := by
    have : k * bytes ≤ (c + k) * bytes := Nat.mul_le_mul_right bytes (by omega)
    have h9 : k * bytes ≤ 140737488355328 := Nat.le_trans this hfit
    rw [← Int.natCast_mul]
    omega
  have hnz : ¬ (k * sz = 0) := by
    have := Nat.mul_pos hk h4
    omega
  refine ⟨grownCap w (c + k) c e, (Builtin.zeroCells z.cells k).toList ++ (Builtin.zeroCells z.cells (grownCap w (c + k) c e - (c + k))).toList, ⟨hge, grownCap_le_maxLen w (c + k) c e (by simpa [maxLen] using h63)⟩, ?_, ?_⟩
  · simp only [List.length_append, Array.length_toList, size_zeroCells, h6, ← Nat.add_mul]
    congr 1
    omega
  · simp only [Builtin.append_, run_underlying ht, run_underlying ht2, Sem.run_bind, Result.andThen_ok]
    simp [run_underlying ht, run_underlying ht2, sizeOf, typeInfo, zeroValue, h1, h2, h3, h5, hn, hbb, h48', Question.forced, o1, newRow, grownCap, hwr, hneg, hkb, hnz, asInt, asIntOf]
    rw [if_neg (by rw [← h3]; exact h48')]
    congr 2
    congr 1
    apply Array.ext'
    simp
/-- An append of zeros to all of a row's room. -/
theorem AOps_growZ {ops : Array Oper} {i : Nat} {l : List Nat} {o : Oper} {t t2 e sz bytes tk c : Nat} {kk : IntKind} {s x : Operand} {es : List (List D)} {k : Int} (ho : ops[i]? = some o) (hw : awanted ops sl o = some true)
    (hop : o.op = .call { callee := .builtin .append, args := #[s, x], argTypes := #[t, t2] }) (ht : P.underlying t = some (.slice e)) (ht2 : P.underlying t2 = some (.int kk)) (hok : appOk P e sz bytes = true)
    (hsl : aval sl s = .wd sz es tk c c) (hx : aval sl x = i64 k) (htk : S.tk tk = some (es.length, sz)) (hk : 0 < k) (hfit : ((c : Int) + k) * bytes ≤ 140737488355328) (h63 : (c : Int) + k ≤ 9223372036854775807)
    (h : ∀ S' u m c', S.tk u = none → Upd S S' u (es.length, sz) → AOps P ops Q l (aput sl o.dst (.wd sz es u m c')) S') : AOps P ops Q (i :: l) sl S := by
  refine AOps_one ho hw fun G w a hs hr hdf => ?_
  have h1 := aval_rep hr s
  rw [hsl] at h1
  simp only [Rep] at h1
  obtain ⟨A, h2, h3, h4, h5, h6⟩ := h1
  have h7 := lit_of hr hx
  obtain ⟨_, _, _, _, _, hsz, _⟩ := appOk_spec hok
  obtain ⟨olds, o1, o2, o3⟩ := room_cells (P := P) hs htk rfl h5 h3 hsz h6
  obtain ⟨n, rfl⟩ : ∃ n : Nat, k = n := ⟨k.toNat, by omega⟩
  have hfit : (c + n) * bytes ≤ 140737488355328 := by
    have h8 : (((c + n) * bytes : Nat) : Int) ≤ 140737488355328 := by rw [Int.natCast_mul, Int.natCast_add]; exact hfit
    omega
  obtain ⟨c', rest, r1, r2, r3⟩ := run_appendZ (P := P) (w := w) (ty := o.type) (A := A) (k := n) ht ht2 hok (by omega) hfit (by omega) olds o1
  have hcut : es.length * sz ≤ c * sz := Nat.mul_le_mul_right sz h3
  have hl1 : (olds.take (es.length * sz)).length = es.length * sz := by rw [List.length_take]; omega
  obtain ⟨G', e1, s1, k1, k2, k3⟩ := hs.drew.alloc_tk (olds.take (es.length * sz)) (olds.drop (es.length * sz) ++ rest) e es.length c' sz hl1 (by omega) (by
    rw [hl1, List.length_append, List.length_drop, o2, r2, Nat.sub_mul]
    have : c * sz ≤ c' * sz := Nat.mul_le_mul_right sz (by omega)
    omega) r1.2
  rw [← List.append_assoc, List.take_append_drop] at s1
  refine ⟨.value (.slice (some ⟨w.heap.size, 0, none⟩) (c + n) c'), _, G', .wd sz es G.nx (c + n) c', _, ?_, e1, s1, .inr ⟨_, rfl, ?_⟩, h _ G.nx _ _ k3 (Upd.mk' S G.nx _)⟩
  · have e : (#[s, x] : Array Operand).map a.eval = #[a.eval s, a.eval x] := by simp
    simp only [execOp, hop, resolve, Sem.run_bind, Sem.run_pure, Result.andThen_ok, invoke, builtin, e, h2, h7, r3]
  · simp only [Rep]
    refine ⟨_, rfl, by omega, r1.1, k2, ?_⟩
    rcases h6 with h6 | ⟨a', vs, _, _, _, _⟩
    · exact .inl h6
    · exact .inr ⟨_, _, rfl, rfl, o3.ext e1, k1⟩
end Go.Proofs.Ytfaojkajlpojlaa.Abs
