/- The law of FooterStands. -/
import Derived.Test.YtfaojkajlpojlaaPFootE
import Derived.KernelRfl
namespace Go.Proofs.Ytfaojkajlpojlaa.Abs
open Go

/-! ### Few: it tells something -/
theorem few_l3 {F : Footer} (hF : FLen F) {gi c : Nat} (hg : gi < F.Groups.length) (hc : c < (rd F.Groups (gi : Int) Group.zero).Chunks.length)
    (cont : ∀ x, ∃ b, Ev (fun k => law19_Few.l2 k F (gi : Int) x ((c + 1 : Nat) : Int)) b) :
    ∀ (n i : Nat) (x : Int), i + n = (rd (rd F.Groups (gi : Int) Group.zero).Chunks (c : Int) []).length → ∃ b, Ev (fun k => law19_Few.l3 k F (gi : Int) (c : Int) x (i : Int)) b
  | 0, i, x, hi => by
    have L := (hF.c _ (rd_mem Group.zero hg)).1
    have c1 : ¬ ((i : Int) < ((rd (rd F.Groups (gi : Int) Group.zero).Chunks (c : Int) []).length : Int)) := by omega
    obtain ⟨b, e⟩ := cont x
    refine ⟨b, Ev.step (fun k => by rw [law19_Few.l3]) ?_⟩
    simp only [c1, decide_false, Bool.false_eq_true, if_false]
    rw [succ_w' c (by omega)]
    exact e
  | n + 1, i, x, hi => by
    have L := (hF.c _ (rd_mem Group.zero hg)).2 _ (rd_mem [] hc)
    have c1 : (i : Int) < ((rd (rd F.Groups (gi : Int) Group.zero).Chunks (c : Int) []).length : Int) := by omega
    have c2 : 0 ≤ (i : Int) ∧ (i : Int) < ((rd (rd F.Groups (gi : Int) Group.zero).Chunks (c : Int) []).length : Int) := by omega
    obtain ⟨b, e⟩ := few_l3 hF hg hc cont n (i + 1) _ (by omega)
    refine ⟨b, Ev.step (fun k => by rw [law19_Few.l3]) ?_⟩
    simp only [c1, c2, decide_true, if_true, and_self]
    rw [succ_w' i (by omega)]
    exact e
theorem few_l2 {F : Footer} (hF : FLen F) {gi : Nat} (hg : gi < F.Groups.length) (cont : ∀ x, ∃ b, Ev (fun k => law19_Few.l1 k F x ((gi + 1 : Nat) : Int)) b) :
    ∀ (n c : Nat) (x : Int), c + n = (rd F.Groups (gi : Int) Group.zero).Chunks.length → ∃ b, Ev (fun k => law19_Few.l2 k F (gi : Int) x (c : Int)) b
  | 0, c, x, hc => by
    have hG := hF.g
    have c0 : 0 ≤ (gi : Int) ∧ (gi : Int) < (F.Groups.length : Int) := by omega
    have c1 : ¬ ((c : Int) < ((rd F.Groups (gi : Int) Group.zero).Chunks.length : Int)) := by omega
    obtain ⟨b, e⟩ := cont x
    refine ⟨b, Ev.step (fun k => by rw [law19_Few.l2]) ?_⟩
    simp only [c0, c1, decide_false, Bool.false_eq_true, if_false, and_self, if_true]
    rw [succ_w' gi (by omega)]
    exact e
  | n + 1, c, x, hc => by
    have c0 : 0 ≤ (gi : Int) ∧ (gi : Int) < (F.Groups.length : Int) := by omega
    have c1 : (c : Int) < ((rd F.Groups (gi : Int) Group.zero).Chunks.length : Int) := by omega
    have c2 : 0 ≤ (c : Int) ∧ (c : Int) < ((rd F.Groups (gi : Int) Group.zero).Chunks.length : Int) := by omega
    obtain ⟨b, e⟩ := few_l3 hF hg (show c < _ by omega) (fun y => few_l2 hF hg cont n (c + 1) y (by omega)) _ 0 (IntKind.wrap .i64 (x + 5)) (Nat.zero_add _)
    refine ⟨b, Ev.step (fun k => by rw [law19_Few.l2]) ?_⟩
    simp only [c0, c1, c2, decide_true, and_self, if_true]
    exact e
theorem few_l1 {F : Footer} (hF : FLen F) : ∀ (n g : Nat) (x : Int), g + n = F.Groups.length → ∃ b, Ev (fun k => law19_Few.l1 k F x (g : Int)) b
  | 0, g, x, hg => by
    have c1 : ¬ ((g : Int) < (F.Groups.length : Int)) := by omega
    by_cases c2 : (F.Cols.length : Int) ≤ 70
    · refine ⟨decide (x ≤ 4000), Ev.step (fun k => by rw [law19_Few.l1]) ?_⟩
      simp only [c1, c2, decide_false, decide_true, Bool.false_eq_true, if_false, if_true]
      exact Ev.const _
    · refine ⟨false, Ev.step (fun k => by rw [law19_Few.l1]) ?_⟩
      simp only [c1, c2, decide_false, Bool.false_eq_true, if_false]
      exact Ev.const _
  | n + 1, g, x, hg => by
    have c1 : (g : Int) < (F.Groups.length : Int) := by omega
    obtain ⟨b, e⟩ := few_l2 hF (show g < F.Groups.length by omega) (fun y => few_l1 hF n (g + 1) y (by omega)) _ 0 (IntKind.wrap .i64 (x + 10)) (Nat.zero_add _)
    refine ⟨b, Ev.step (fun k => by rw [law19_Few.l1]) ?_⟩
    simp only [c1, decide_true, if_true]
    exact e
theorem few_l0 {F : Footer} (hF : FLen F) (hC : F.Cols.length ≤ 9223372036854775807) : ∀ (n c : Nat) (x : Int), c + n = F.Cols.length → ∃ b, Ev (fun k => law19_Few.l0 k F x (c : Int)) b
  | 0, c, x, hc => by
    have c1 : ¬ ((c : Int) < (F.Cols.length : Int)) := by omega
    obtain ⟨b, e⟩ := few_l1 hF F.Groups.length 0 x (Nat.zero_add _)
    refine ⟨b, Ev.step (fun k => by rw [law19_Few.l0]) ?_⟩
    simp only [c1, decide_false, Bool.false_eq_true, if_false]
    exact e
  | n + 1, c, x, hc => by
    have c1 : (c : Int) < (F.Cols.length : Int) := by omega
    have c2 : 0 ≤ (c : Int) ∧ (c : Int) < (F.Cols.length : Int) := by omega
    obtain ⟨b, e⟩ := few_l0 hF hC n (c + 1) _ (by omega)
    refine ⟨b, Ev.step (fun k => by rw [law19_Few.l0]) ?_⟩
    simp only [c1, c2, decide_true, and_self, if_true]
    rw [succ_w' c (by omega)]
    exact e

/-! ### The law -/
theorem spansOf_len (a : Int) (l : List PageInfo) : (spansOf a l).length = l.length := by
  induction l generalizing a with
  | nil => rfl
  | cons p l ih => simp [spansOf, ih]
theorem spansOf_rd {l : List PageInfo} {i : Nat} (h : i < l.length) (a : Int) : rd (spansOf a l) (i : Int) Span.zero = ⟨a + sumR (l.take i), a + sumR (l.take (i + 1))⟩ := by
  induction l generalizing a i with
  | nil => simp at h
  | cons p l ih =>
    cases i with
    | zero => simp [spansOf, rd, sumR]
    | succ i =>
      have := ih (i := i) (by simpa using h) (a + p.Rows)
      simp only [rd_nat, spansOf, List.getD_cons_succ, List.take_succ_cons, sumR] at this ⊢
      rw [this]
      simp only [Int.add_assoc]
theorem sumR_split (l : List PageInfo) (n : Nat) : sumR (l.take n) + sumR (l.drop n) = sumR l := by
  induction l generalizing n with
  | nil => simp [sumR]
  | cons p l ih =>
    cases n with
    | zero => simp [sumR]
    | succ n => have := ih n; simp only [List.take_succ_cons, List.drop_succ_cons, sumR]; omega

section
variable {F : Footer} (h : FootP F)
include h
theorem at_rows {gi : Nat} (hg : gi < F.Groups.length) : 0 ≤ rowsG (F.Groups.take gi) ∧ rowsG (F.Groups.take gi) + (rd F.Groups (gi : Int) Group.zero).Rows ≤ 65536 := by
  have a := (rowsG_take_le h.groups (gi + 1)).2
  rw [rowsG_take hg] at a
  have b := rowsG_nonneg (drop_all h.groups (gi + 1))
  have c := rowsG_nonneg (take_all h.groups gi)
  have := h.rows
  have := h.rows1
  omega
theorem stands_pages {gi c : Nat} (hg : gi < F.Groups.length) (hc : c < F.Cols.length) {v : Bool}
    (cont : Ev (fun k => law19_FooterStands.l1 k F true (rowsG (F.Groups.take gi)) (gi : Int) (sizeG (F.Groups.take gi) + sizeC ((rd F.Groups (gi : Int) Group.zero).Chunks.take (c + 1))) ((c + 1 : Nat) : Int)) v) :
    ∀ (n i : Nat), i + n = (rd (rd F.Groups (gi : Int) Group.zero).Chunks (c : Int) []).length →
      Ev (fun k => law19_FooterStands.l2 k F true (rowsG (F.Groups.take gi)) (gi : Int) (c : Int) (spansOf (rowsG (F.Groups.take gi)) (rd (rd F.Groups (gi : Int) Group.zero).Chunks (c : Int) []))
        (sizeG (F.Groups.take gi) + sizeC ((rd F.Groups (gi : Int) Group.zero).Chunks.take c) + sumS ((rd (rd F.Groups (gi : Int) Group.zero).Chunks (c : Int) []).take i)) (i : Int)) v
  | 0, i, hi => by
    have G := h.groups _ (rd_mem Group.zero hg)
    have hl := G.2.1
    have hco := h.cols
    have c1 : ¬ ((i : Int) < ((rd (rd F.Groups (gi : Int) Group.zero).Chunks (c : Int) []).length : Int)) := by omega
    refine Ev.step (fun k => by rw [law19_FooterStands.l2]) ?_
    simp only [c1, decide_false, Bool.false_eq_true, if_false]
    refine Ev.bind (place_none h hg) ?_
    simp only [bne_self_eq_false, Bool.false_eq_true, if_false]
    rw [succ_w' c (by omega), List.take_of_length_le (l := rd (rd F.Groups (gi : Int) Group.zero).Chunks (c : Int) []) (by omega)]
    rw [sizeC_take (by omega), ← Int.add_assoc] at cont
    exact cont
  | n + 1, i, hi => by
    have G := h.groups _ (rd_mem Group.zero hg)
    have hi' : i < (rd (rd F.Groups (gi : Int) Group.zero).Chunks (c : Int) []).length := by omega
    have L := (h.len.c _ (rd_mem Group.zero hg)).2 _ (rd_mem [] (show c < (rd F.Groups (gi : Int) Group.zero).Chunks.length by rw [G.2.1]; exact hc))
    obtain ⟨C1, C2⟩ := G.2.2 c hc
    have b1 := at_group h hg
    have b2 := at_chunk h hg hc
    have b3 := at_page h hg hc hi'
    have b4 := at_rows h hg
    have s1 := sumR_split (rd (rd F.Groups (gi : Int) Group.zero).Chunks (c : Int) []) (i + 1)
    have s2 := sumR_nonneg (drop_all C1 (i + 1))
    have s3 := sumR_nonneg (take_all C1 i)
    have s4 := sumR_take hi'
    have s5 := (C1 _ (rd_mem PageInfo.zero hi')).2.1
    have ih := stands_pages hg hc cont n (i + 1) (by omega)
    rw [sumS_take hi', ← Int.add_assoc] at ih
    have c1 : (i : Int) < ((rd (rd F.Groups (gi : Int) Group.zero).Chunks (c : Int) []).length : Int) := by omega
    have c2 : 0 ≤ (i : Int) ∧ (i : Int) < ((rd (rd F.Groups (gi : Int) Group.zero).Chunks (c : Int) []).length : Int) := by omega
    have j3 : Ev (fun k => law19_FooterStands.j3 k F true (rowsG (F.Groups.take gi)) (gi : Int) (c : Int) (spansOf (rowsG (F.Groups.take gi)) (rd (rd F.Groups (gi : Int) Group.zero).Chunks (c : Int) []))
        (sizeG (F.Groups.take gi) + sizeC ((rd F.Groups (gi : Int) Group.zero).Chunks.take c) + sumS ((rd (rd F.Groups (gi : Int) Group.zero).Chunks (c : Int) []).take i)) (i : Int)) v := by
      refine Ev.step (fun k => by rw [law19_FooterStands.j3]) ?_
      simp only [c2, and_self, if_true]
      rw [w64_in (n := _ + (rd (rd (rd F.Groups (gi : Int) Group.zero).Chunks (c : Int) []) (i : Int) PageInfo.zero).Size) (by omega) (by omega), succ_w' i (by omega)]
      exact ih
    have w : IntKind.wrap .i64 (rowsG (F.Groups.take gi) + sumR ((rd (rd F.Groups (gi : Int) Group.zero).Chunks (c : Int) []).take (i + 1)) - (rowsG (F.Groups.take gi) + sumR ((rd (rd F.Groups (gi : Int) Group.zero).Chunks (c : Int) []).take i))) =
        (rd (rd (rd F.Groups (gi : Int) Group.zero).Chunks (c : Int) []) (i : Int) PageInfo.zero).Rows := by rw [w64_in (by omega) (by omega), s4]; omega
    refine Ev.step (fun k => by rw [law19_FooterStands.l2]) ?_
    simp only [c1, decide_true, if_true]
    refine Ev.bind (place_at h hg hc hi') ?_
    simp only [bne_self_eq_false, Bool.false_eq_true, if_false, spansOf_len, c2, and_self, if_true, spansOf_rd hi', w]
    by_cases h0 : i = 0
    · subst h0
      have d : ¬ (((0 : Nat) : Int) > 0) := by omega
      simp only [d, decide_false, Bool.false_eq_true, if_false]
      exact j3
    · obtain ⟨m, rfl⟩ : ∃ m, i = m + 1 := ⟨i - 1, by omega⟩
      have d : (((m + 1 : Nat) : Int) > 0) := by omega
      have e : IntKind.wrap .i64 (((m + 1 : Nat) : Int) - 1) = (m : Int) := by rw [w64_in (by omega) (by omega)]; omega
      have f : 0 ≤ (m : Int) ∧ (m : Int) < ((rd (rd F.Groups (gi : Int) Group.zero).Chunks (c : Int) []).length : Int) := by omega
      simp only [d, e, f, decide_true, if_true, and_self, spansOf_rd (show m < (rd (rd F.Groups (gi : Int) Group.zero).Chunks (c : Int) []).length by omega), bne_self_eq_false, Bool.false_eq_true, if_false]
      exact j3
theorem stands_chunks {gi : Nat} (hg : gi < F.Groups.length) {v : Bool}
    (cont : Ev (fun k => law19_FooterStands.l0 k F true (sizeG (F.Groups.take (gi + 1))) (rowsG (F.Groups.take (gi + 1))) ((gi + 1 : Nat) : Int)) v) :
    ∀ (n c : Nat), c + n = F.Cols.length → Ev (fun k => law19_FooterStands.l1 k F true (rowsG (F.Groups.take gi)) (gi : Int) (sizeG (F.Groups.take gi) + sizeC ((rd F.Groups (gi : Int) Group.zero).Chunks.take c)) (c : Int)) v
  | 0, c, hc => by
    have G := h.groups _ (rd_mem Group.zero hg)
    have hl := G.2.1
    have hG := h.len.g
    have b4 := at_rows h hg
    have g1 := G.1
    have c0 : 0 ≤ (gi : Int) ∧ (gi : Int) < (F.Groups.length : Int) := by omega
    have c1 : ¬ ((c : Int) < (F.Cols.length : Int)) := by omega
    refine Ev.step (fun k => by rw [law19_FooterStands.l1]) ?_
    simp only [c0, c1, decide_false, Bool.false_eq_true, if_false, and_self, if_true]
    rw [w64_in (n := _ + (rd F.Groups (gi : Int) Group.zero).Rows) (by omega) (by omega), succ_w' gi (by omega), List.take_of_length_le (l := (rd F.Groups (gi : Int) Group.zero).Chunks) (by omega)]
    rw [sizeG_take hg, rowsG_take hg] at cont
    exact cont
  | n + 1, c, hc => by
    have G := h.groups _ (rd_mem Group.zero hg)
    have hl := G.2.1
    have g1 := G.1
    have hc' : c < F.Cols.length := by omega
    obtain ⟨C1, C2⟩ := G.2.2 c hc'
    have b4 := at_rows h hg
    have L := (h.len.c _ (rd_mem Group.zero hg)).2 _ (rd_mem [] (show c < (rd F.Groups (gi : Int) Group.zero).Chunks.length by rw [G.2.1]; exact hc'))
    have ne : 0 < (rd (rd F.Groups (gi : Int) Group.zero).Chunks (c : Int) []).length := by
      rcases Nat.eq_zero_or_pos (rd (rd F.Groups (gi : Int) Group.zero).Chunks (c : Int) []).length with e | e
      · have : (rd (rd F.Groups (gi : Int) Group.zero).Chunks (c : Int) []) = [] := List.eq_nil_of_length_eq_zero e
        rw [this] at C2
        simp only [sumR] at C2
        omega
      · exact e
    have c0 : 0 ≤ (gi : Int) ∧ (gi : Int) < (F.Groups.length : Int) := by omega
    have c1 : (c : Int) < (F.Cols.length : Int) := by omega
    have c2 : 0 ≤ (c : Int) ∧ (c : Int) < ((rd F.Groups (gi : Int) Group.zero).Chunks.length : Int) := by omega
    have c3 : ¬ (((rd (rd F.Groups (gi : Int) Group.zero).Chunks (c : Int) []).length : Int) = 0) := by omega
    have c4 : 0 ≤ (0 : Int) ∧ (0 : Int) < ((rd (rd F.Groups (gi : Int) Group.zero).Chunks (c : Int) []).length : Int) := by omega
    have e1 : rd (spansOf (rowsG (F.Groups.take gi)) (rd (rd F.Groups (gi : Int) Group.zero).Chunks (c : Int) [])) 0 Span.zero = _ := spansOf_rd (i := 0) ne _
    obtain ⟨m, hm⟩ : ∃ m, (rd (rd F.Groups (gi : Int) Group.zero).Chunks (c : Int) []).length = m + 1 := ⟨(rd (rd F.Groups (gi : Int) Group.zero).Chunks (c : Int) []).length - 1, by omega⟩
    have e2 : IntKind.wrap .i64 (((rd (rd F.Groups (gi : Int) Group.zero).Chunks (c : Int) []).length : Int) - 1) = (m : Int) := by rw [w64_in (by omega) (by omega)]; omega
    have e3 := spansOf_rd (l := rd (rd F.Groups (gi : Int) Group.zero).Chunks (c : Int) []) (i := m) (by omega) (rowsG (F.Groups.take gi))
    rw [← hm, List.take_length] at e3
    have c5 : 0 ≤ (m : Int) ∧ (m : Int) < ((rd (rd F.Groups (gi : Int) Group.zero).Chunks (c : Int) []).length : Int) := by omega
    have e4 : IntKind.wrap .i64 (rowsG (F.Groups.take gi) + (rd F.Groups (gi : Int) Group.zero).Rows) = rowsG (F.Groups.take gi) + (rd F.Groups (gi : Int) Group.zero).Rows := w64_in (by omega) (by omega)
    have e5 : ((((rd (rd F.Groups (gi : Int) Group.zero).Chunks (c : Int) []).length : Int)) == 0) = false := by simpa using c3
    refine Ev.step (fun k => by rw [law19_FooterStands.l1]) ?_
    simp only [c0, c1, c2, decide_true, and_self, if_true]
    refine Ev.bind (spans_ok h hg hc') ?_
    simp only [spansOf_len, bne_self_eq_false, Bool.false_eq_true, if_false, e5, c4, c5, e2, e1, e3, e4, C2, List.take_zero, sumR, Int.add_zero, and_self, if_true]
    have := stands_pages h hg hc' (stands_chunks hg cont n (c + 1) (by omega)) _ 0 (Nat.zero_add _)
    simpa [sumS] using this
theorem stands_groups : ∀ (n g : Nat), g + n = F.Groups.length → Ev (fun k => law19_FooterStands.l0 k F true (sizeG (F.Groups.take g)) (rowsG (F.Groups.take g)) (g : Int)) true
  | 0, g, hg => by
    have c1 : ¬ ((g : Int) < (F.Groups.length : Int)) := by omega
    refine Ev.step (fun k => by rw [law19_FooterStands.l0]) ?_
    simp only [c1, decide_false, Bool.false_eq_true, if_false, if_true]
    refine Ev.bind (place_end h) ?_
    rw [List.take_of_length_le (by omega), h.rows]
    simp only [beq_self_eq_true, if_true]
    exact Ev.const _
  | n + 1, g, hg => by
    have c1 : (g : Int) < (F.Groups.length : Int) := by omega
    refine Ev.step (fun k => by rw [law19_FooterStands.l0]) ?_
    simp only [c1, decide_true, if_true]
    have := stands_chunks h (show g < F.Groups.length by omega) (stands_groups n (g + 1) (by omega)) F.Cols.length 0 (Nat.zero_add _)
    simpa [sizeC] using this
end
theorem small_true : Ev (fun k => law19_small.f k) true := Ev.of (k := 100) (by kernel_rfl) law19_small.mono
theorem FooterStands_pure (F : Footer) (hw : F.wf) : ∃ k, law19_FooterStands.f k F = some true := by
  have hF := FLen.of hw
  obtain ⟨b, e1⟩ := few_l0 hF hw.1.1 F.Cols.length 0 0 (Nat.zero_add _)
  obtain ⟨r, e2, e3⟩ := ref_right F hw
  have e0 : Ev (fun k => law19_Few.f k F) b := Ev.congr (fun k => by show law19_Few.l0 k F 0 0 = _; rfl) e1
  refine Ev.ex (f := fun k => law19_FooterStands.f k F) (Ev.congr (fun k => by rw [law19_FooterStands.f]) (Ev.bind small_true (Ev.bind e0 ?_)))
  cases b
  · simp only [Bool.not_false, if_true]
    exact Ev.const _
  · simp only [Bool.not_true, Bool.false_eq_true, if_false]
    refine Ev.bind e2 ?_
    cases r
    · simp only [Bool.not_false, if_true]
      exact Ev.const _
    · simp only [Bool.not_true, Bool.false_eq_true, if_false]
      have := stands_groups (e3 rfl) F.Groups.length 0 (Nat.zero_add _)
      simpa [sizeG, rowsG] using this
end Go.Proofs.Ytfaojkajlpojlaa.Abs
