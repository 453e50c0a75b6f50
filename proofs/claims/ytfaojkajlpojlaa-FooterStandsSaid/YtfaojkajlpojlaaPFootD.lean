/- The program's own answers on a footer that is right: Right, Spans, Place. -/
import Derived.Test.YtfaojkajlpojlaaPFootC
namespace Go.Proofs.Ytfaojkajlpojlaa.Abs
open Go

theorem sumR_nonneg {col : Col} : ∀ {l : List PageInfo}, (∀ p ∈ l, PageP col p) → 0 ≤ sumR l
  | [], _ => by simp [sumR]
  | p :: l, h => by have := sumR_nonneg (l := l) (fun q hq => h q (List.mem_cons_of_mem _ hq)); have := (h p (by simp)).2.1; simp only [sumR]; omega
theorem sumS_nonneg {col : Col} : ∀ {l : List PageInfo}, (∀ p ∈ l, PageP col p) → 0 ≤ sumS l
  | [], _ => by simp [sumS]
  | p :: l, h => by have := sumS_nonneg (l := l) (fun q hq => h q (List.mem_cons_of_mem _ hq)); have := (h p (by simp)).2.2.2.1; simp only [sumS]; omega
theorem sizeC_nonneg : ∀ {r : List (List PageInfo)}, (∀ l ∈ r, 0 ≤ sumS l) → 0 ≤ sizeC r
  | [], _ => by simp [sizeC]
  | l :: r, h => by have := sizeC_nonneg (r := r) (fun q hq => h q (List.mem_cons_of_mem _ hq)); have := h l (by simp); simp only [sizeC]; omega
theorem mem_rd {α : Type} {l : List α} {x : α} (d : α) (h : x ∈ l) : ∃ i, i < l.length ∧ rd l (i : Int) d = x := by
  obtain ⟨i, hi, e⟩ := List.getElem_of_mem h
  exact ⟨i, hi, by rw [rd_nat]; simp [List.getD, List.getElem?_eq_getElem hi, e]⟩
theorem GroupP.sizes {cols : List Col} {g : Group} (h : GroupP cols g) : ∀ l ∈ g.Chunks, 0 ≤ sumS l := fun l hl => by
  obtain ⟨i, hi, rfl⟩ := mem_rd [] hl
  exact sumS_nonneg (h.2.2 i (by rw [← h.2.1]; exact hi)).1
theorem GroupP.size {cols : List Col} {g : Group} (h : GroupP cols g) : 0 ≤ sizeC g.Chunks := sizeC_nonneg h.sizes
theorem sizeG_nonneg {cols : List Col} : ∀ {r : List Group}, (∀ g ∈ r, GroupP cols g) → 0 ≤ sizeG r
  | [], _ => by simp [sizeG]
  | g :: r, h => by have := sizeG_nonneg (r := r) (fun q hq => h q (List.mem_cons_of_mem _ hq)); have := (h g (by simp)).size; simp only [sizeG]; omega
theorem rowsG_nonneg {cols : List Col} : ∀ {r : List Group}, (∀ g ∈ r, GroupP cols g) → 0 ≤ rowsG r
  | [], _ => by simp [rowsG]
  | g :: r, h => by have := rowsG_nonneg (r := r) (fun q hq => h q (List.mem_cons_of_mem _ hq)); have := (h g (by simp)).1; simp only [rowsG]; omega
theorem sizeC_drop {r : List (List PageInfo)} {c : Nat} (h : c < r.length) : sizeC (r.drop c) = sumS (rd r (c : Int) []) + sizeC (r.drop (c + 1)) := by rw [drop_rd [] h]; rfl
theorem sizeG_drop {r : List Group} {c : Nat} (h : c < r.length) : sizeG (r.drop c) = sizeC (rd r (c : Int) Group.zero).Chunks + sizeG (r.drop (c + 1)) := by rw [drop_rd Group.zero h]; rfl
theorem rowsG_drop {r : List Group} {c : Nat} (h : c < r.length) : rowsG (r.drop c) = (rd r (c : Int) Group.zero).Rows + rowsG (r.drop (c + 1)) := by rw [drop_rd Group.zero h]; rfl
theorem sumS_drop {r : List PageInfo} {c : Nat} (h : c < r.length) : sumS (r.drop c) = (rd r (c : Int) PageInfo.zero).Size + sumS (r.drop (c + 1)) := by rw [drop_rd PageInfo.zero h]; rfl
theorem sumR_drop {r : List PageInfo} {c : Nat} (h : c < r.length) : sumR (r.drop c) = (rd r (c : Int) PageInfo.zero).Rows + sumR (r.drop (c + 1)) := by rw [drop_rd PageInfo.zero h]; rfl
theorem drop_all {α : Type} {P : α → Prop} {l : List α} (h : ∀ x ∈ l, P x) (n : Nat) : ∀ x ∈ l.drop n, P x := fun x hx => h x (List.mem_of_mem_drop hx)

/-! ### Right -/
theorem right_pages {F : Footer} (h : FootP F) {gi c : Nat} (hg : gi < F.Groups.length) (hc : c < F.Cols.length) {x1 room' : Int} {b : Bool}
    (cont : Ev (fun k => footer_Right.l1 k F x1 (gi : Int) room' ((c + 1 : Nat) : Int)) b) (hr0 : 0 ≤ room') :
    ∀ (n i : Nat) (room rows : Int), i + n = (rd (rd F.Groups (gi : Int) Group.zero).Chunks (c : Int) []).length → rows = sumR ((rd (rd F.Groups (gi : Int) Group.zero).Chunks (c : Int) []).drop i) → room = room' + sumS ((rd (rd F.Groups (gi : Int) Group.zero).Chunks (c : Int) []).drop i) →
      rows ≤ 65536 → room ≤ 1073741824 → Ev (fun k => footer_Right.l2 k F x1 (gi : Int) (c : Int) room rows (i : Int)) b
  | 0, i, room, rows, hi, e1, e2, _, _ => by
    have c1 : ¬ ((i : Int) < ((rd (rd F.Groups (gi : Int) Group.zero).Chunks (c : Int) []).length : Int)) := by omega
    rw [List.drop_of_length_le (by omega)] at e1 e2
    simp only [sumR, sumS] at e1 e2
    subst e1
    have c2 : ¬ ((0 : Int) > 0) := by omega
    refine Ev.step (fun k => by rw [footer_Right.l2]) ?_
    simp only [c1, decide_false, Bool.false_eq_true, if_false, c2]
    rw [succ_w c (by have := h.cols; omega), e2, Int.add_zero]
    exact cont
  | n + 1, i, room, rows, hi, e1, e2, b1, b2 => by
    have G := h.groups _ (rd_mem Group.zero hg)
    have L := (h.len.c _ (rd_mem Group.zero hg)).2 _ (rd_mem [] (show c < (rd F.Groups (gi : Int) Group.zero).Chunks.length by rw [G.2.1]; exact hc))
    obtain ⟨C1, C2⟩ := G.2.2 c hc
    have c1 : (i : Int) < ((rd (rd F.Groups (gi : Int) Group.zero).Chunks (c : Int) []).length : Int) := by omega
    have c2 : 0 ≤ (i : Int) ∧ (i : Int) < ((rd (rd F.Groups (gi : Int) Group.zero).Chunks (c : Int) []).length : Int) := by omega
    have c3 : 0 ≤ (c : Int) ∧ (c : Int) < (F.Cols.length : Int) := by omega
    obtain ⟨p1, p2, p3, p4, p5⟩ := C1 _ (rd_mem PageInfo.zero (show i < (rd (rd F.Groups (gi : Int) Group.zero).Chunks (c : Int) []).length by omega))
    have n1 := sumR_nonneg (drop_all C1 (i + 1))
    have n2 := sumS_nonneg (drop_all C1 (i + 1))
    rw [sumR_drop (by omega)] at e1
    rw [sumS_drop (by omega)] at e2
    have d1 : ¬ ((rd (rd (rd F.Groups (gi : Int) Group.zero).Chunks (c : Int) []) (i : Int) PageInfo.zero).Rows > rows) := by omega
    have d2 : ¬ ((rd (rd (rd F.Groups (gi : Int) Group.zero).Chunks (c : Int) []) (i : Int) PageInfo.zero).Size > room) := by omega
    have ih := right_pages h hg hc cont hr0 n (i + 1) (room - (rd (rd (rd F.Groups (gi : Int) Group.zero).Chunks (c : Int) []) (i : Int) PageInfo.zero).Size) (rows - (rd (rd (rd F.Groups (gi : Int) Group.zero).Chunks (c : Int) []) (i : Int) PageInfo.zero).Rows) (by omega) (by omega) (by omega) (by omega) (by omega)
    refine Ev.step (fun k => by rw [footer_Right.l2]) ?_
    simp only [c1, c2, c3, decide_true, if_true, and_self]
    refine Ev.bind (Ev.from_ 16 p1) ?_
    simp only [Bool.not_true, Bool.false_eq_true, if_false, d1, d2, decide_false]
    rw [w64_in (n := room - _) (by omega) (by omega), w64_in (n := rows - _) (by omega) (by omega), succ_w' i (by omega)]
    exact ih
theorem right_chunks {F : Footer} (h : FootP F) {gi : Nat} (hg : gi < F.Groups.length) {x1 room' : Int} {b : Bool} (hx : 0 ≤ x1 - (rd F.Groups (gi : Int) Group.zero).Rows ∧ x1 ≤ 65536)
    (cont : Ev (fun k => footer_Right.l0 k F (x1 - (rd F.Groups (gi : Int) Group.zero).Rows) room' ((gi + 1 : Nat) : Int)) b) (hr0 : 0 ≤ room') :
    ∀ (n c : Nat) (room : Int), c + n = F.Cols.length → room = room' + sizeC ((rd F.Groups (gi : Int) Group.zero).Chunks.drop c) → room ≤ 1073741824 → Ev (fun k => footer_Right.l1 k F x1 (gi : Int) room (c : Int)) b
  | 0, c, room, hc, e, _ => by
    have G := h.groups _ (rd_mem Group.zero hg)
    have hG := h.len.g
    have c1 : ¬ ((c : Int) < ((rd F.Groups (gi : Int) Group.zero).Chunks.length : Int)) := by rw [G.2.1]; omega
    rw [List.drop_of_length_le (by rw [G.2.1]; omega)] at e
    simp only [sizeC, Int.add_zero] at e
    subst e
    have := G.1
    refine Ev.step (fun k => by rw [footer_Right.l1]) ?_
    simp only [c1, decide_false, Bool.false_eq_true, if_false]
    rw [w64_in (n := x1 - _) (by omega) (by omega), succ_w' gi (by omega)]
    exact cont
  | n + 1, c, room, hc, e, b1 => by
    have G := h.groups _ (rd_mem Group.zero hg)
    have hl := G.2.1
    have c1 : (c : Int) < ((rd F.Groups (gi : Int) Group.zero).Chunks.length : Int) := by rw [hl]; omega
    have c2 : 0 ≤ (c : Int) ∧ (c : Int) < ((rd F.Groups (gi : Int) Group.zero).Chunks.length : Int) := by omega
    rw [sizeC_drop (by omega)] at e
    have s1 := sizeC_nonneg (drop_all G.sizes (c + 1))
    have C := G.2.2 c (by omega)
    have s2 := sumS_nonneg C.1
    have ih := right_chunks h hg hx cont hr0 n (c + 1) (room' + sizeC ((rd F.Groups (gi : Int) Group.zero).Chunks.drop (c + 1))) (by omega) rfl (by omega)
    refine Ev.step (fun k => by rw [footer_Right.l1]) ?_
    simp only [c1, c2, decide_true, if_true, and_self]
    have rows_le : (rd F.Groups (gi : Int) Group.zero).Rows ≤ 65536 := by omega
    exact right_pages h hg (by omega) ih (by omega) _ 0 room _ (Nat.zero_add _) (by rw [List.drop_zero]; exact C.2.symm) (by rw [List.drop_zero]; omega) rows_le b1
theorem right_all {F : Footer} (h : FootP F) : ∀ (n gi : Nat) (x1 room : Int), gi + n = F.Groups.length → x1 = rowsG (F.Groups.drop gi) → sizeG (F.Groups.drop gi) ≤ room → room ≤ 1073741824 → x1 ≤ 65536 → Ev (fun k => footer_Right.l0 k F x1 room (gi : Int)) true
  | 0, gi, x1, room, hg, e, _, _, _ => by
    have c1 : ¬ ((gi : Int) < (F.Groups.length : Int)) := by omega
    rw [List.drop_of_length_le (by omega)] at e
    simp only [rowsG] at e
    subst e
    exact Ev.step (fun k => by rw [footer_Right.l0]) (by simp only [c1, decide_false, Bool.false_eq_true, if_false]; exact Ev.const _)
  | n + 1, gi, x1, room, hg, e, r1, r2, b1 => by
    have c1 : (gi : Int) < (F.Groups.length : Int) := by omega
    have c2 : 0 ≤ (gi : Int) ∧ (gi : Int) < (F.Groups.length : Int) := by omega
    have G := h.groups _ (rd_mem Group.zero (show gi < F.Groups.length by omega))
    have := G.1
    have hl := G.2.1
    rw [rowsG_drop (by omega)] at e
    rw [sizeG_drop (by omega)] at r1
    have n1 := rowsG_nonneg (drop_all h.groups (gi + 1))
    have n2 := sizeG_nonneg (drop_all h.groups (gi + 1))
    have n3 := G.size
    have d1 : ¬ ((rd F.Groups (gi : Int) Group.zero).Rows < 1) := by omega
    have d2 : ¬ ((rd F.Groups (gi : Int) Group.zero).Rows > x1) := by omega
    have d3 : ((rd F.Groups (gi : Int) Group.zero).Chunks.length : Int) = (F.Cols.length : Int) := by omega
    have ih := right_all h n (gi + 1) (x1 - (rd F.Groups (gi : Int) Group.zero).Rows) (room - sizeC (rd F.Groups (gi : Int) Group.zero).Chunks) (by omega) (by omega) (by omega) (by omega) (by omega)
    refine Ev.step (fun k => by rw [footer_Right.l0]) ?_
    simp only [c1, c2, d1, d2, d3, decide_true, decide_false, if_true, and_self, Bool.false_eq_true, if_false, bne_self_eq_false]
    exact right_chunks h (by omega) (by omega) ih (by omega) F.Cols.length 0 room (by omega) (by rw [List.drop_zero]; omega) r2
theorem right_true {F : Footer} (h : FootP F) : Ev (fun k => footer_Right.f k F) true := by
  have c1 : ¬ (F.Rows < 0) := by have := h.rows0; omega
  have c2 : ¬ (F.Rows > 65536) := by have := h.rows1; omega
  refine Ev.congr (fun k => by rw [footer_Right.f]) (Ev.bind h.colsOk ?_)
  simp only [bne_self_eq_false, Bool.false_eq_true, if_false, c1, c2, decide_false]
  exact right_all h F.Groups.length 0 F.Rows 1073741824 (by omega) (by rw [List.drop_zero]; exact h.rows.symm) (by rw [List.drop_zero]; exact h.size) (by omega) h.rows1

/-! ### Spans -/
def spansOf : Int → List PageInfo → List Span
  | _, [] => []
  | at_, p :: l => ⟨at_, at_ + p.Rows⟩ :: spansOf (at_ + p.Rows) l
theorem spans_pages {F : Footer} (h : FootP F) {gi c : Nat} (hg : gi < F.Groups.length) (hc : c < F.Cols.length) :
    ∀ (n i : Nat) (at_ : Int) (out : List Span), i + n = (rd (rd F.Groups (gi : Int) Group.zero).Chunks (c : Int) []).length → 0 ≤ at_ → at_ + sumR ((rd (rd F.Groups (gi : Int) Group.zero).Chunks (c : Int) []).drop i) ≤ 131072 → (out.length : Int) + sumR ((rd (rd F.Groups (gi : Int) Group.zero).Chunks (c : Int) []).drop i) ≤ 131072 →
      Ev (fun k => footer_Spans.l1 k F (gi : Int) (c : Int) at_ out (i : Int)) (out ++ spansOf at_ ((rd (rd F.Groups (gi : Int) Group.zero).Chunks (c : Int) []).drop i))
  | 0, i, at_, out, hi, _, _, _ => by
    have c1 : ¬ ((i : Int) < ((rd (rd F.Groups (gi : Int) Group.zero).Chunks (c : Int) []).length : Int)) := by omega
    rw [List.drop_of_length_le (by omega)]
    refine Ev.step (fun k => by rw [footer_Spans.l1]) ?_
    simp only [c1, decide_false, Bool.false_eq_true, if_false, spansOf, List.append_nil]
    exact Ev.const _
  | n + 1, i, at_, out, hi, a0, a1, a2 => by
    have G := h.groups _ (rd_mem Group.zero hg)
    have L := (h.len.c _ (rd_mem Group.zero hg)).2 _ (rd_mem [] (show c < (rd F.Groups (gi : Int) Group.zero).Chunks.length by rw [G.2.1]; exact hc))
    obtain ⟨C1, C2⟩ := G.2.2 c hc
    have c1 : (i : Int) < ((rd (rd F.Groups (gi : Int) Group.zero).Chunks (c : Int) []).length : Int) := by omega
    have c2 : 0 ≤ (i : Int) ∧ (i : Int) < ((rd (rd F.Groups (gi : Int) Group.zero).Chunks (c : Int) []).length : Int) := by omega
    obtain ⟨p1, p2, p3, p4, p5⟩ := C1 _ (rd_mem PageInfo.zero (show i < (rd (rd F.Groups (gi : Int) Group.zero).Chunks (c : Int) []).length by omega))
    have n1 := sumR_nonneg (drop_all C1 (i + 1))
    rw [sumR_drop (by omega)] at a1 a2
    have c3 : (out.length + 1) * 16 ≤ 140737488355328 := by omega
    rw [drop_rd PageInfo.zero (show i < (rd (rd F.Groups (gi : Int) Group.zero).Chunks (c : Int) []).length by omega)]
    have e : IntKind.wrap .i64 (at_ + (rd (rd (rd F.Groups (gi : Int) Group.zero).Chunks (c : Int) []) (i : Int) PageInfo.zero).Rows) = at_ + (rd (rd (rd F.Groups (gi : Int) Group.zero).Chunks (c : Int) []) (i : Int) PageInfo.zero).Rows := w64_in (by omega) (by omega)
    have ih := spans_pages h hg hc n (i + 1) (at_ + (rd (rd (rd F.Groups (gi : Int) Group.zero).Chunks (c : Int) []) (i : Int) PageInfo.zero).Rows) (out ++ [⟨at_, at_ + (rd (rd (rd F.Groups (gi : Int) Group.zero).Chunks (c : Int) []) (i : Int) PageInfo.zero).Rows⟩]) (by omega) (by omega) (by omega) (by simp only [List.length_append, List.length_cons, List.length_nil]; omega)
    refine Ev.step (fun k => by rw [footer_Spans.l1]) ?_
    simp only [c1, c2, c3, decide_true, if_true, and_self, e]
    rw [succ_w' i (by omega)]
    simpa [spansOf] using ih
theorem rowsG_take_le {cols : List Col} {r : List Group} (h : ∀ g ∈ r, GroupP cols g) (n : Nat) : 0 ≤ rowsG (r.take n) ∧ rowsG (r.take n) + rowsG (r.drop n) = rowsG r := by
  induction r generalizing n with
  | nil => simp [rowsG]
  | cons g r ih =>
    cases n with
    | zero => simp [rowsG]
    | succ n =>
      obtain ⟨h1, h2⟩ := ih (fun q hq => h q (List.mem_cons_of_mem _ hq)) n
      have := (h g (by simp)).1
      simp only [List.take_succ_cons, List.drop_succ_cons, rowsG]
      omega
theorem spans_at {F : Footer} (h : FootP F) {gi c : Nat} (hg : gi < F.Groups.length) (hc : c < F.Cols.length) :
    ∀ (n i : Nat) (at_ : Int), i + n = gi → 0 ≤ at_ → at_ + rowsG ((F.Groups.take gi).drop i) = rowsG (F.Groups.take gi) → Ev (fun k => footer_Spans.l0 k F (gi : Int) (c : Int) at_ (i : Int)) (spansOf (rowsG (F.Groups.take gi)) (rd (rd F.Groups (gi : Int) Group.zero).Chunks (c : Int) []))
  | 0, i, at_, hi, a0, e => by
    have G := h.groups _ (rd_mem Group.zero hg)
    have hl := G.2.1
    have tl : (F.Groups.take (gi : Int).toNat).length = gi := by rw [Int.toNat_natCast, List.length_take]; omega
    have c1 : ¬ ((i : Int) < ((F.Groups.take (gi : Int).toNat).length : Int)) := by rw [tl]; omega
    have c2 : 0 ≤ (gi : Int) ∧ (gi : Int) < (F.Groups.length : Int) := by omega
    have c3 : 0 ≤ (c : Int) ∧ (c : Int) < ((rd F.Groups (gi : Int) Group.zero).Chunks.length : Int) := by omega
    rw [List.drop_of_length_le (by rw [List.length_take]; omega)] at e
    simp only [rowsG, Int.add_zero] at e
    obtain ⟨t1, t2⟩ := rowsG_take_le h.groups gi
    have t3 := rowsG_nonneg (drop_all h.groups gi)
    have t4 := h.rows
    have t5 := h.rows1
    have C := (G.2.2 c hc).2
    rw [rowsG_drop hg] at t2 t3
    have t6 := rowsG_nonneg (drop_all h.groups (gi + 1))
    refine Ev.step (fun k => by rw [footer_Spans.l0]) ?_
    simp only [c1, c2, c3, decide_false, Bool.false_eq_true, if_false, if_true, and_self]
    have := spans_pages h hg hc (rd (rd F.Groups (gi : Int) Group.zero).Chunks (c : Int) []).length 0 at_ [] (by omega) a0 (by rw [List.drop_zero]; omega) (by rw [List.drop_zero]; simp only [List.length_nil]; omega)
    rw [e] at this ⊢
    simpa using this
  | n + 1, i, at_, hi, a0, e => by
    have tl : (F.Groups.take (gi : Int).toNat).length = gi := by rw [Int.toNat_natCast, List.length_take]; omega
    have tl' : (F.Groups.take gi).length = gi := by rw [List.length_take]; omega
    have c1 : (i : Int) < ((F.Groups.take (gi : Int).toNat).length : Int) := by rw [tl]; omega
    have c2 : 0 ≤ (i : Int) ∧ (i : Int) < ((F.Groups.take (gi : Int).toNat).length : Int) := by omega
    have hm : ∀ g ∈ F.Groups.take gi, GroupP F.Cols g := fun g hg' => h.groups g (List.mem_of_mem_take hg')
    have G := hm _ (rd_mem Group.zero (show i < (F.Groups.take gi).length by omega))
    have g1 := G.1
    rw [rowsG_drop (by omega)] at e
    have t1 := rowsG_nonneg (drop_all hm (i + 1))
    obtain ⟨t2, t3⟩ := rowsG_take_le h.groups gi
    have t4 := rowsG_nonneg (drop_all h.groups gi)
    have t5 := h.rows
    have t6 := h.rows1
    have hG := h.len.g
    have ih := spans_at h hg hc n (i + 1) (at_ + (rd (F.Groups.take gi) (i : Int) Group.zero).Rows) (by omega) (by omega) (by omega)
    refine Ev.step (fun k => by rw [footer_Spans.l0]) ?_
    simp only [c1, c2, decide_true, if_true, and_self]
    rw [Int.toNat_natCast, w64_in (n := at_ + _) (by omega) (by omega), succ_w' i (by omega)]
    exact ih
theorem spans_ok {F : Footer} (h : FootP F) {gi c : Nat} (hg : gi < F.Groups.length) (hc : c < F.Cols.length) :
    Ev (fun k => footer_Spans.f k F (gi : Int) (c : Int)) (spansOf (rowsG (F.Groups.take gi)) (rd (rd F.Groups (gi : Int) Group.zero).Chunks (c : Int) [])) := by
  have c1 : ¬ ((gi : Int) < 0) := by omega
  have c2 : ¬ ((gi : Int) ≥ (F.Groups.length : Int)) := by omega
  have c3 : ¬ ((c : Int) < 0) := by omega
  have c4 : ¬ ((c : Int) ≥ (F.Cols.length : Int)) := by omega
  have c5 : 0 ≤ (gi : Int) ∧ (gi : Int) ≤ (F.Groups.length : Int) := by omega
  refine Ev.congr (fun k => by rw [footer_Spans.f]) ?_
  simp only [c1, c2, c3, c4, decide_false, Bool.false_eq_true, if_false]
  refine Ev.bind (right_true h) ?_
  simp only [Bool.not_true, Bool.false_eq_true, if_false, c5, and_self, if_true]
  exact spans_at h hg hc gi 0 0 (by omega) (by omega) (by simp)
end Go.Proofs.Ytfaojkajlpojlaa.Abs
