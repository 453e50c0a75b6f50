/- Rows that are made, and written by index. -/
import Derived.Test.YtfaojkajlpojlaaAbsR
import Derived.Laws.MakeOwn
namespace Go.Proofs.Ytfaojkajlpojlaa.Abs
open Go Go.RowKit

variable {P : Program} {S : Store} {G : Gh} {w : World} {Q : Exit → List D → Store → Prop} {sl : List D}

def rowC {α : Type} (E : α → List D) (l : List α) : List D := (l.map E).flatten
theorem rowC_len {α : Type} {E : α → List D} {sz : Nat} (hE : ∀ x, (E x).length = sz) : ∀ l : List α, (rowC E l).length = l.length * sz
  | [] => by simp [rowC]
  | x :: l => by
    have := rowC_len hE l
    simp only [rowC, List.map_cons, List.flatten_cons, List.length_append, List.length_cons, hE] at this ⊢
    rw [this, Nat.add_mul, Nat.one_mul]
    omega
theorem rowC_drop {α : Type} {E : α → List D} {sz : Nat} (hE : ∀ x, (E x).length = sz) : ∀ (l : List α) (i : Nat), (rowC E l).drop (i * sz) = rowC E (l.drop i)
  | l, 0 => by simp
  | [], i + 1 => by simp [rowC]
  | x :: l, i + 1 => by
    have := rowC_drop hE l i
    simp only [rowC, List.map_cons, List.flatten_cons, List.drop_succ_cons] at this ⊢
    rw [← this, Nat.add_mul, Nat.one_mul, Nat.add_comm, List.drop_append, hE]
    rw [List.drop_of_length_le (by rw [hE]; omega)]
    simp
theorem rowC_at {α : Type} {E : α → List D} {sz : Nat} (hE : ∀ x, (E x).length = sz) {l : List α} {i : Nat} (d : α) (hi : i < l.length) (j : Nat) (hj : j < sz) : (rowC E l)[i * sz + j]? = (E (l.getD i d))[j]? := by
  have h1 : ((rowC E l).drop (i * sz))[j]? = (rowC E l)[i * sz + j]? := by rw [List.getElem?_drop]
  rw [← h1, rowC_drop hE, List.drop_eq_getElem_cons hi]
  simp only [rowC, List.map_cons, List.flatten_cons]
  rw [List.getElem?_append_left (by rw [hE]; exact hj)]
  simp [List.getD, hi]
theorem rowC_take {α : Type} {E : α → List D} {sz : Nat} (hE : ∀ x, (E x).length = sz) {l : List α} {i : Nat} (d : α) (hi : i < l.length) (j n : Nat) (hj : j + n ≤ sz) : ((rowC E l).drop (i * sz + j)).take n = ((E (l.getD i d)).drop j).take n := by
  rw [← List.drop_drop, rowC_drop hE, List.drop_eq_getElem_cons hi]
  simp only [rowC, List.map_cons, List.flatten_cons]
  have e : l.getD i d = l[i] := by simp [List.getD, hi]
  rw [e, List.drop_append, List.take_append]
  have h0 : n - ((E l[i]).drop j).length = 0 := by simp [hE]; omega
  rw [h0]
  simp
theorem tk_app {A B : List D} {sz : Nat} (h : A.length = sz) (n : Nat) : (A ++ B).take (sz + n) = A ++ B.take n := by
  subst h
  rw [List.take_append, List.take_of_length_le (by omega), show A.length + n - A.length = n by omega]
theorem dr_app {A B : List D} {sz : Nat} (h : A.length = sz) (n : Nat) : (A ++ B).drop (sz + n) = B.drop n := by
  subst h
  rw [List.drop_append, List.drop_of_length_le (by omega), show A.length + n - A.length = n by omega, List.nil_append]
theorem rowC_set {α : Type} {E : α → List D} {sz : Nat} (hE : ∀ x, (E x).length = sz) (x' : α) : ∀ (l : List α) (i : Nat), i < l.length → rowC E (l.set i x') = (rowC E l).take (i * sz) ++ E x' ++ (rowC E l).drop (i * sz + sz)
  | [], i, h => by simp at h
  | x :: l, 0, _ => by
    simp only [rowC, List.set_cons_zero, List.map_cons, List.flatten_cons, Nat.zero_mul, List.take_zero, List.nil_append, Nat.zero_add]
    rw [List.drop_append, List.drop_of_length_le (by rw [hE]; exact Nat.le_refl _), hE]
    simp
  | x :: l, i + 1, h => by
    have ih := rowC_set hE x' l i (by simpa using h)
    simp only [rowC, List.set_cons_succ, List.map_cons, List.flatten_cons] at ih ⊢
    rw [ih]
    have e1 : (i + 1) * sz = sz + i * sz := by rw [Nat.add_mul, Nat.one_mul, Nat.add_comm]
    rw [e1, tk_app (hE x), show sz + i * sz + sz = sz + (i * sz + sz) by omega, dr_app (hE x)]
    simp
theorem rowC_put {α : Type} {E : α → List D} {sz : Nat} (hE : ∀ x, (E x).length = sz) {l : List α} {i : Nat} (d x' : α) (hi : i < l.length) (j : Nat) (ds : List D) (hj : j + ds.length ≤ sz) (hx : (E (l.getD i d)).take j ++ ds ++ (E (l.getD i d)).drop (j + ds.length) = E x') :
    (rowC E l).take (i * sz + j) ++ ds ++ (rowC E l).drop (i * sz + j + ds.length) = rowC E (l.set i x') := by
  rw [rowC_set hE x' l i hi, ← hx]
  have hd : ∀ k, k ≤ sz → (rowC E l).drop (i * sz + k) = (E (l.getD i d)).drop k ++ (rowC E l).drop (i * sz + sz) := by
    intro k hk
    have e : l.getD i d = l[i] := by simp [List.getD, hi]
    have e2 : (rowC E l).drop (i * sz) = E l[i] ++ rowC E (l.drop (i + 1)) := by
      rw [rowC_drop hE, List.drop_eq_getElem_cons hi]
      rfl
    have e3 := dr_app (B := rowC E (l.drop (i + 1))) (hE l[i]) 0
    rw [Nat.add_zero, List.drop_zero] at e3
    rw [← List.drop_drop, ← List.drop_drop, e2, e, e3, List.drop_append, hE, Nat.sub_eq_zero_of_le hk, List.drop_zero]
  have ht : (rowC E l).take (i * sz + j) = (rowC E l).take (i * sz) ++ (E (l.getD i d)).take j := by
    rw [List.take_add]
    congr 1
    have := rowC_take hE d hi 0 j (by omega)
    simpa using this
  rw [ht, show i * sz + j + ds.length = i * sz + (j + ds.length) by omega, hd _ hj]
  simp
theorem chunk_row {α : Type} {E : α → List D} {sz : Nat} (hE : ∀ x, (E x).length = sz) : ∀ l : List α, chunk sz l.length (rowC E l) = l.map E
  | [] => rfl
  | x :: l => by
    have := chunk_row hE l
    simp only [rowC, List.map_cons, List.flatten_cons, List.length_cons, chunk] at this ⊢
    rw [List.take_append, List.take_of_length_le (by rw [hE]; exact Nat.le_refl _), List.drop_append, List.drop_of_length_le (by rw [hE]; exact Nat.le_refl _), hE, Nat.sub_self]
    simp [this]

def setI {α : Type} (l : List α) (i : Int) (x : α) : List α := l.set i.toNat x
/-- A load out of a row in memory. -/
theorem AOps_rowLoad {ops : Array Oper} {i : Nat} {l : List Nat} {o : Oper} {t k T off : Nat} {x : Operand} {α : Type} {E : α → List D} {sz : Nat} {r : List α} (ix : Int) (j : Nat) (d0 : α) (d : D) (ho : ops[i]? = some o) (hw : awanted ops sl o = some true) (hop : o.op = .load t x)
    (hx : aval sl x = .ob k off) (hk : S.ob k = some (.cells T (rowC E r))) (hE : ∀ x, (E x).length = sz) (hoff : off = ix.toNat * sz + j) (hi : 0 ≤ ix ∧ ix < (r.length : Int))
    (hd : (aggT P t = some true ∧ ∃ n, cellsN P t = some n ∧ j + n ≤ sz ∧ d = .ag (((E (rd r ix d0)).drop j).take n)) ∨ (aggT P t = some false ∧ j < sz ∧ (E (rd r ix d0))[j]? = some d))
    (h : AOps P ops Q l (aput sl o.dst d) S) : AOps P ops Q (i :: l) sl S := by
  subst hoff
  have hl : ix.toNat < r.length := by omega
  refine AOps_load d ho hw hop hx hk ?_ h
  rcases hd with ⟨h1, n, h2, h3, h4⟩ | ⟨h1, h2, h3⟩
  · refine .inl ⟨h1, n, h2, ?_, ?_⟩
    · rw [rowC_len hE]
      have : (ix.toNat + 1) * sz ≤ r.length * sz := Nat.mul_le_mul_right sz hl
      rw [Nat.add_mul, Nat.one_mul] at this
      omega
    · rw [h4, rowC_take hE d0 hl j n h3]
      rfl
  · refine .inr ⟨h1, ?_⟩
    rw [rowC_at hE d0 hl j h2]
    exact h3
/-- A store into a row in memory. -/
theorem AOps_rowPut {ops : Array Oper} {i : Nat} {l : List Nat} {o : Oper} {t k T off : Nat} {x y : Operand} {α : Type} {E : α → List D} {sz : Nat} {r : List α} (ix : Int) (j : Nat) (d0 x' : α) {ds : List D} (ho : ops[i]? = some o) (hw : awanted ops sl o = some true) (hop : o.op = .store t x y)
    (hx : aval sl x = .ob k off) (hk : S.ob k = some (.cells T (rowC E r))) (hE : ∀ x, (E x).length = sz) (hoff : off = ix.toNat * sz + j) (hi : 0 ≤ ix ∧ ix < (r.length : Int))
    (hy : cellsD (aval sl y) = some ds) (hn : cellsN P t = some ds.length) (hj : j + ds.length ≤ sz) (hx' : (E (rd r ix d0)).take j ++ ds ++ (E (rd r ix d0)).drop (j + ds.length) = E x')
    (h : ∀ S', UpdO S S' k (.cells T (rowC E (setI r ix x'))) → AOps P ops Q l (aput sl o.dst .any) S') : AOps P ops Q (i :: l) sl S := by
  subst hoff
  have hl : ix.toNat < r.length := by omega
  refine AOps_put ho hw hop hx hk hy hn ?_ ?_
  · rw [rowC_len hE]
    have : (ix.toNat + 1) * sz ≤ r.length * sz := Nat.mul_le_mul_right sz hl
    rw [Nat.add_mul, Nat.one_mul] at this
    omega
  · rw [rowC_put hE d0 x' hl j ds hj hx']
    exact h _ (UpdO.mk' S k _)

theorem made_list (z : Array Value) : ∀ n, (madeCells z (n * z.size)).toList = (List.replicate n z.toList).flatten
  | 0 => by simp [madeCells]
  | n + 1 => by
    have ih := made_list z n
    have e : ∀ m, (madeCells z m).toList = (List.range m).map (fun i => z[i % z.size]!) := fun m => by simp [madeCells]
    rw [e] at ih ⊢
    rw [Nat.add_mul, Nat.one_mul, List.range_add, List.map_append, ih, List.replicate_succ', List.flatten_append]
    congr 1
    simp only [List.map_map, List.flatten_cons, List.flatten_nil, List.append_nil]
    apply List.ext_getElem
    · simp
    · intro i h1 h2
      simp only [List.length_map, List.length_range] at h1
      simp only [List.getElem_map, List.getElem_range, Function.comp]
      rw [Nat.mul_add_mod_self_right, Nat.mod_eq_of_lt h1]
      simp [h1]
end Go.Proofs.Ytfaojkajlpojlaa.Abs
