/- Making rows; a row that is written no more. -/
import Derived.Test.YtfaojkajlpojlaaAbsS
namespace Go.Proofs.Ytfaojkajlpojlaa.Abs
open Go Go.RowKit

variable {P : Program} {S : Store} {G : Gh} {w : World} {Q : Exit → List D → Store → Prop} {sl : List D}

/-- An empty row with room. -/
theorem AOps_make0 {ops : Array Oper} {i : Nat} {l : List Nat} {o : Oper} {t e sz bytes : Nat} {lo co : Operand} {kl kc : IntKind} {inf : TypeInfo} {z : Value} (c : Int) (ho : ops[i]? = some o) (hw : awanted ops sl o = some true) (hop : o.op = .makeSlice t lo co)
    (ht : P.underlying t = some (.slice e)) (hi : P.info? e = some inf) (hz : inf.zero = some z) (hs : inf.size = sz) (hb : inf.bytes = bytes) (hl : aval sl lo = .lit (.int kl 0)) (hc : aval sl co = .lit (.int kc c)) (h0 : 0 ≤ c) (hfit : (bytes : Int) * c ≤ 281474976710656) (h63 : c ≤ 9223372036854775807)
    (h : ∀ S' tk, S.tk tk = none → Upd S S' tk (0, sz) → AOps P ops Q l (aput sl o.dst (.sl sz [] (some tk))) S') : AOps P ops Q (i :: l) sl S := by
  subst hs hb
  refine AOps_one ho hw fun G w a hs hr hd => ?_
  have h1 := aval_rep hr lo
  rw [hl] at h1
  simp only [Rep] at h1
  have h2 := aval_rep hr co
  rw [hc] at h2
  simp only [Rep] at h2
  have hrun := run_make (P := P) w t e inf z ht hi hz kl kc 0 c (Int.le_refl _) h0 hfit h63
  obtain ⟨G', e1, s1, k1, k2, k3⟩ := hs.alloc_tk [] (madeCells z.cells (c.toNat * inf.size)).toList e 0 c.toNat inf.size (by simp) (Nat.zero_le _) (by simp [size_madeCells]) (by omega)
  refine ⟨.value (.slice (some ⟨w.heap.size, 0, none⟩) 0 c.toNat), _, G', .sl inf.size [] (some G.nx), _, ?_, e1, s1, .inr ⟨_, rfl, ?_⟩, h _ G.nx k3 (Upd.mk' S _ _)⟩
  · simp only [execOp, hop, h1, h2]
    refine wrap_v' ?_
    rw [hrun]
    simp
  · simp only [Rep]
    exact ⟨_, _, rfl, Nat.zero_le _, fun t ht => (by cases ht; exact k2), .inl trivial⟩

theorem rep_replicate {G : Gh} {ds : List D} {us : List Value} (h : RepL G ds us) : ∀ n, RepL G (List.replicate n ds).flatten (List.replicate n us).flatten
  | 0 => by simp [RepL]
  | n + 1 => by
    simp only [List.replicate_succ, List.flatten_cons]
    exact h.append (rep_replicate h n)
theorem one_replicate {us : List Value} (h : One us) : ∀ n, One (List.replicate n us).flatten
  | 0 => by simp [One]
  | n + 1 => by
    simp only [List.replicate_succ, List.flatten_cons]
    exact h.append (one_replicate h n)
theorem rowC_replicate {α : Type} (E : α → List D) (z : α) (n : Nat) : (List.replicate n (E z)).flatten = rowC E (List.replicate n z) := by simp [rowC]
/-- A row of zero values, to be written by index. -/
theorem AOps_makeRow {ops : Array Oper} {i : Nat} {l : List Nat} {o : Oper} {t e bytes : Nat} {lo co : Operand} {kl kc : IntKind} {inf : TypeInfo} {z : Value} {zs : List D} {α : Type} {E : α → List D} (z0 : α) (n : Int) (ho : ops[i]? = some o) (hw : awanted ops sl o = some true) (hop : o.op = .makeSlice t lo co)
    (ht : P.underlying t = some (.slice e)) (hi : P.info? e = some inf) (hz : inf.zero = some z) (hs : z.cells.size = inf.size) (hb : inf.bytes = bytes) (h1z : z.cells.all (·.oneCell') = true) (hzs : z.cells.toList.map D.lit = zs) (hE : E z0 = zs) (hl : aval sl lo = .lit (.int kl n)) (hc : aval sl co = .lit (.int kc n)) (h0 : 0 ≤ n) (hfit : (bytes : Int) * n ≤ 281474976710656)
    (h63 : n ≤ 9223372036854775807) (h : ∀ S' k, S.ob k = none → UpdO S S' k (.cells e (rowC E (List.replicate n.toNat z0))) → AOps P ops Q l (aput sl o.dst (.vw k 0 n.toNat n.toNat)) S') : AOps P ops Q (i :: l) sl S := by
  subst hb hzs
  refine AOps_one ho hw fun G w a hs' hr hd => ?_
  have h1 := aval_rep hr lo
  rw [hl] at h1
  simp only [Rep] at h1
  have h2 := aval_rep hr co
  rw [hc] at h2
  simp only [Rep] at h2
  have hrun := run_make (P := P) w t e inf z ht hi hz kl kc n n h0 (Int.le_refl _) hfit h63
  have hrep : RepL G (rowC E (List.replicate n.toNat z0)) (madeCells z.cells (n.toNat * inf.size)).toList := by
    rw [← rowC_replicate, hE, ← hs, made_list]
    exact rep_replicate (lits_rep _) _
  have hone : One (madeCells z.cells (n.toNat * inf.size)).toList := by
    rw [← hs, made_list]
    exact one_replicate (fun v hv => Array.all_eq_true'.1 h1z v (by simpa using hv)) _
  obtain ⟨G', e1, s1, k1, k2, k3⟩ := hs'.alloc_ob hrep hone e
  refine ⟨.value (.slice (some ⟨w.heap.size, 0, none⟩) n.toNat n.toNat), _, G', .vw G.nx 0 n.toNat n.toNat, _, ?_, e1, s1, .inr ⟨_, rfl, ?_⟩, h _ G.nx k2 (UpdO.mk' S _ _)⟩
  · simp only [execOp, hop, h1, h2]
    refine wrap_v' ?_
    rw [hrun]
  · simp only [Rep]
    exact ⟨_, rfl, k3⟩

/-- One object is told of no more. -/
structure Gone (S S' : Store) (k : Nat) : Prop where
  ne : ∀ j, j ≠ k → S'.ob j = S.ob j
  gone : S'.ob k = Option.none
  tk : ∀ j, S'.tk j = S.tk j
theorem Gone.mk' (S : Store) (k : Nat) : Gone S (S.setOb k none) k := ⟨fun j h => by simp [h], by simp, fun j => rfl⟩
theorem Gone.le {S0 S S' : Store} {k : Nat} (u : Gone S S' k) (h : S.le S0) (hf : S0.ob k = none) : S'.le S0 where
  ob := fun j o y => by rw [u.ne j (fun e => by subst e; rw [hf] at y; cases y)]; exact h.ob j o y
  tk := fun j o y => by rw [u.tk]; exact h.tk j o y
theorem Gone.ob {S S' : Store} {k k2 : Nat} {y : Ob} (u : Gone S S' k) (h : S.ob k2 = some y) (hne : k2 ≠ k) : S'.ob k2 = some y := by rw [u.ne k2 hne]; exact h
theorem Gone.tkk {S S' : Store} {k t : Nat} {y : Nat × Nat} (u : Gone S S' k) (h : S.tk t = some y) : S'.tk t = some y := by rw [u.tk]; exact h
/-- How data reads once a row is written no more. -/
inductive FrzR {α : Type} (k sz : Nat) (E : α → List D) (r : List α) : List D → List D → Prop
  | nil : FrzR k sz E r [] []
  | same (d : D) {l l' : List D} : FrzR k sz E r l l' → FrzR k sz E r (d :: l) (d :: l')
  | row {n c : Nat} {l l' : List D} : n = r.length → n ≤ c → FrzR k sz E r l l' → FrzR k sz E r (.vw k 0 n c :: l) (.sl sz (r.map E) none :: l')
theorem FrzR.frz {α : Type} {k sz : Nat} {E : α → List D} {r : List α} (hE : ∀ x, (E x).length = sz) {l l' : List D} (h : FrzR k sz E r l l') : FrzL k (rowC E r) l l' := by
  induction h with
  | nil => exact .nil
  | same d _ ih => exact .cons (.refl d) ih
  | row hn hc _ ih =>
    refine .cons ?_ ih
    subst hn
    have := Frz.vw (k := k) (cs := rowC E r) 0 r.length _ sz hc (by rw [rowC_len hE]; omega)
    rw [List.drop_zero, chunk_row hE] at this
    exact this
theorem AOps_rowEnd {ops : Array Oper} {l : List Nat} {k T sz : Nat} {α : Type} {E : α → List D} {r : List α} {sl' : List D} (hk : S.ob k = some (.cells T (rowC E r))) (hE : ∀ x, (E x).length = sz) (hl : FrzR k sz E r sl sl') (h : ∀ S', Gone S S' k → AOps P ops Q l sl' S') : AOps P ops Q l sl S :=
  AOps_freeze hk (hl.frz hE) (h _ (Gone.mk' S k))
theorem AT_rowEnd {c : Code} {k T sz : Nat} {α : Type} {E : α → List D} {r : List α} {sl' : List D} (hk : S.ob k = some (.cells T (rowC E r))) (hE : ∀ x, (E x).length = sz) (hl : FrzR k sz E r sl sl') (h : ∀ S', Gone S S' k → AT P c Q sl' S') : AT P c Q sl S :=
  AT_freeze hk (hl.frz hE) (h _ (Gone.mk' S k))
inductive FrzP {α : Type} (k sz : Nat) (E : α → List D) (r : List α) : List (Nat × D) → List (Nat × D) → Prop
  | nil : FrzP k sz E r [] []
  | same (x : Nat × D) {l l' : List (Nat × D)} : FrzP k sz E r l l' → FrzP k sz E r (x :: l) (x :: l')
  | row {i n c : Nat} {l l' : List (Nat × D)} : n = r.length → n ≤ c → FrzP k sz E r l l' → FrzP k sz E r ((i, .vw k 0 n c) :: l) ((i, .sl sz (r.map E) none) :: l')
theorem FrzP.look {α : Type} {k sz : Nat} {E : α → List D} {r : List α} (hE : ∀ x, (E x).length = sz) {l l' : List (Nat × D)} (h : FrzP k sz E r l l') : ∀ j, Frz k (rowC E r) (look l j) (look l' j) := by
  induction h with
  | nil => intro j; exact .refl _
  | same x _ ih =>
    intro j
    obtain ⟨i, d⟩ := x
    simp only [Abs.look]
    split
    · exact .refl _
    · exact ih j
  | row hn hc _ ih =>
    intro j
    simp only [Abs.look]
    split
    · subst hn
      have := Frz.vw (k := k) (cs := rowC E r) 0 r.length _ sz hc (by rw [rowC_len hE]; omega)
      rw [List.drop_zero, chunk_row hE] at this
      exact this
    · exact ih j
theorem frzL_map {k : Nat} {cs : List D} {f g : Nat → D} (h : ∀ i, Frz k cs (f i) (g i)) : ∀ l : List Nat, FrzL k cs (l.map f) (l.map g)
  | [] => .nil
  | i :: l => .cons (h i) (frzL_map h l)
/-- The same over told slots. -/
theorem AOps_rowOut {ops : Array Oper} {l : List Nat} {k T sz m : Nat} {α : Type} {E : α → List D} {r : List α} {ps ps' : List (Nat × D)} (hk : S.ob k = some (.cells T (rowC E r))) (hE : ∀ x, (E x).length = sz) (hl : FrzP k sz E r ps ps') (h : ∀ S', Gone S S' k → AOps P ops Q l (mkS m ps') S') : AOps P ops Q l (mkS m ps) S :=
  AOps_freeze hk (frzL_map (hl.look hE) _) (h _ (Gone.mk' S k))
theorem AT_rowOut {c : Code} {k T sz m : Nat} {α : Type} {E : α → List D} {r : List α} {ps ps' : List (Nat × D)} (hk : S.ob k = some (.cells T (rowC E r))) (hE : ∀ x, (E x).length = sz) (hl : FrzP k sz E r ps ps') (h : ∀ S', Gone S S' k → AT P c Q (mkS m ps') S') : AT P c Q (mkS m ps) S :=
  AT_freeze hk (frzL_map (hl.look hE) _) (h _ (Gone.mk' S k))
theorem setI_len {α : Type} {l : List α} {n : Nat} (i : Int) (x : α) (h : l.length = n) : (setI l i x).length = n := by simp [setI, h]
theorem rep_len {α : Type} (n : Nat) (x : α) : (List.replicate n x).length = n := List.length_replicate

theorem info_of {e : TypeId} {z : Value} {sz bytes : Nat} (h : (P.info? e).map (fun i => (i.zero, i.size, i.bytes)) = some (some z, sz, bytes)) : ∃ inf, P.info? e = some inf ∧ inf.zero = some z ∧ inf.size = sz ∧ inf.bytes = bytes := by
  cases hi : P.info? e with
  | none => simp [hi] at h
  | some inf =>
    simp only [hi, Option.map_some, Option.some.injEq, Prod.mk.injEq] at h
    exact ⟨inf, rfl, h.1, h.2.1, h.2.2⟩
theorem AOps_make0I {ops : Array Oper} {i : Nat} {l : List Nat} {o : Oper} {t e : Nat} {lo co : Operand} {kl kc : IntKind} (z : Value) (sz bytes : Nat) (c : Int) (ho : ops[i]? = some o) (hw : awanted ops sl o = some true) (hop : o.op = .makeSlice t lo co)
    (ht : P.underlying t = some (.slice e)) (hi : (P.info? e).map (fun i => (i.zero, i.size, i.bytes)) = some (some z, sz, bytes)) (hl : aval sl lo = .lit (.int kl 0)) (hc : aval sl co = .lit (.int kc c)) (hfit : 0 ≤ c ∧ (bytes : Int) * c ≤ 281474976710656 ∧ c ≤ 9223372036854775807)
    (h : ∀ S' tk, S.tk tk = none → Upd S S' tk (0, sz) → AOps P ops Q l (aput sl o.dst (.sl sz [] (some tk))) S') : AOps P ops Q (i :: l) sl S := by
  obtain ⟨inf, h1, h2, h3, h4⟩ := info_of hi
  exact AOps_make0 c ho hw hop ht h1 h2 h3 h4 hl hc hfit.1 hfit.2.1 hfit.2.2 h
theorem AOps_makeRowI {ops : Array Oper} {i : Nat} {l : List Nat} {o : Oper} {t e : Nat} {lo co : Operand} {kl kc : IntKind} (z : Value) (sz bytes : Nat) {α : Type} (E : α → List D) (z0 : α) (n : Int) (ho : ops[i]? = some o) (hw : awanted ops sl o = some true) (hop : o.op = .makeSlice t lo co)
    (ht : P.underlying t = some (.slice e)) (hi : (P.info? e).map (fun i => (i.zero, i.size, i.bytes)) = some (some z, sz, bytes)) (hs : z.cells.size = sz) (h1z : z.cells.all (·.oneCell') = true) (hE : E z0 = z.cells.toList.map D.lit) (hl : aval sl lo = .lit (.int kl n)) (hc : aval sl co = .lit (.int kc n))
    (hfit : 0 ≤ n ∧ (bytes : Int) * n ≤ 281474976710656 ∧ n ≤ 9223372036854775807) (h : ∀ S' k, S.ob k = none → UpdO S S' k (.cells e (rowC E (List.replicate n.toNat z0))) → AOps P ops Q l (aput sl o.dst (.vw k 0 n.toNat n.toNat)) S') : AOps P ops Q (i :: l) sl S := by
  obtain ⟨inf, h1, h2, h3, h4⟩ := info_of hi
  exact AOps_makeRow z0 n ho hw hop ht h1 h2 (hs.trans h3.symm) h4 h1z rfl hE hl hc hfit.1 hfit.2.1 hfit.2.2 h

/-- A load out of a row in memory, in a region that draws its order. -/
theorem AAny_rowLoad {ops : Array Oper} {F : List Nat} {st : Nat} {I : Store → Prop} {fuel : Nat} {listed : Array Bool} {i : Nat} {o : Oper} {t k T off : Nat} {x : Operand} {α : Type} {E : α → List D} {sz : Nat} {r : List α} (ix : Int) (j : Nat) (d0 : α) (d : D) (ho : ops[i]? = some o) (hf : freeD ops F st true listed i = true) (hw : awanted ops (vis ops o sl) o = some true)
    (hop : o.op = .load t x) (hx : aval (vis ops o sl) x = .ob k off) (hk : S.ob k = some (.cells T (rowC E r))) (hE : ∀ x, (E x).length = sz) (hoff : off = ix.toNat * sz + j) (hi : 0 ≤ ix ∧ ix < (r.length : Int))
    (hd : (aggT P t = some true ∧ ∃ n, cellsN P t = some n ∧ j + n ≤ sz ∧ d = .ag (((E (rd r ix d0)).drop j).take n)) ∨ (aggT P t = some false ∧ j < sz ∧ (E (rd r ix d0))[j]? = some d))
    (h : AAny P ops F st I (RQ Q) fuel (listed.setIfInBounds i true) (aput sl o.dst d) S) : AAny P ops F st I (RQ Q) (fuel + 1) listed sl S := by
  subst hoff
  have hl : ix.toNat < r.length := by omega
  refine AAny_load d ho hf hw hop hx hk ?_ h
  rcases hd with ⟨h1, n, h2, h3, h4⟩ | ⟨h1, h2, h3⟩
  · refine .inl ⟨h1, n, h2, ?_, ?_⟩
    · rw [rowC_len hE]
      have : (ix.toNat + 1) * sz ≤ r.length * sz := Nat.mul_le_mul_right sz hl
      rw [Nat.add_mul, Nat.one_mul] at this
      omega
    · rw [h4, rowC_take hE d0 hl j n h3]
      rfl
  · refine .inr ⟨h1, ?_⟩
    rw [rowC_at hE d0 hl j h2]
    exact h3

theorem AAny_rowLoadI {ops : Array Oper} {F : List Nat} {st : Nat} {I : Store → Prop} {fuel : Nat} {listed : Array Bool} {i : Nat} {o : Oper} {t k T off : Nat} {x : Operand} {α : Type} {E : α → List D} {sz : Nat} {r : List α} (ix : Int) (j : Nat) (d0 : α) (d : D) (ho : ops[i]? = some o) (hf : freeD ops F st false listed i = true) (hw : awanted ops (vis ops o sl) o = some true)
    (hop : o.op = .load t x) (hx : aval (vis ops o sl) x = .ob k off) (hk : ∀ S, I S → S.ob k = some (.cells T (rowC E r))) (hst : stOk ops listed st i = true) (hE : ∀ x, (E x).length = sz) (hoff : off = ix.toNat * sz + j) (hi : 0 ≤ ix ∧ ix < (r.length : Int))
    (hd : (aggT P t = some true ∧ ∃ n, cellsN P t = some n ∧ j + n ≤ sz ∧ d = .ag (((E (rd r ix d0)).drop j).take n)) ∨ (aggT P t = some false ∧ j < sz ∧ (E (rd r ix d0))[j]? = some d))
    (h : AAny P ops F st I (RQ Q) fuel (listed.setIfInBounds i true) (aput sl o.dst d) S) : AAny P ops F st I (RQ Q) (fuel + 1) listed sl S := by
  subst hoff
  have hl : ix.toNat < r.length := by omega
  refine AAny_loadI d ho hf hw hop hx hk hst ?_ h
  rcases hd with ⟨h1, n, h2, h3, h4⟩ | ⟨h1, h2, h3⟩
  · refine .inl ⟨h1, n, h2, ?_, ?_⟩
    · rw [rowC_len hE]
      have : (ix.toNat + 1) * sz ≤ r.length * sz := Nat.mul_le_mul_right sz hl
      rw [Nat.add_mul, Nat.one_mul] at this
      omega
    · rw [h4, rowC_take hE d0 hl j n h3]
      rfl
  · refine .inr ⟨h1, ?_⟩
    rw [rowC_at hE d0 hl j h2]
    exact h3

/-! ### Bytes -/
theorem b8_wrap (n : Int) : ((b8 (IntKind.wrap .u8 n)).toNat : Int) = IntKind.wrap .u8 n := by
  have h := bounds_u8 (wf_wrap .u8 n)
  exact b8_toNat h.1 (by omega)
theorem b8_bits (op : BinOp) (x y : Int) : ((b8 (ibits op .u8 x y)).toNat : Int) = ibits op .u8 x y := b8_wrap _
theorem b8_shr {n : Int} (k : Nat) (h0 : 0 ≤ n) (h1 : n < 256) : ((b8 (Int.fdiv n (2 ^ k))).toNat : Int) = Int.fdiv n (2 ^ k) := by
  have hp : (0 : Int) < 2 ^ k := Int.pow_pos (by decide)
  have e : Int.fdiv n (2 ^ k) = n / 2 ^ k := Int.fdiv_eq_ediv_of_nonneg n (Int.le_of_lt hp)
  rw [e]
  refine b8_toNat (Int.ediv_nonneg h0 (Int.le_of_lt hp)) ?_
  exact Int.lt_of_le_of_lt (Int.ediv_le_self _ h0) h1
end Go.Proofs.Ytfaojkajlpojlaa.Abs
