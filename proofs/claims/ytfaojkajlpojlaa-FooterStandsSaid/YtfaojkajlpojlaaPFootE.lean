/- The program's own answers on a footer that is right: where pages stand. -/
import Derived.Test.YtfaojkajlpojlaaPFootD
namespace Go.Proofs.Ytfaojkajlpojlaa.Abs
open Go

theorem sumS_take {l : List PageInfo} {i : Nat} (h : i < l.length) : sumS (l.take (i + 1)) = sumS (l.take i) + (rd l (i : Int) PageInfo.zero).Size := by
  induction l generalizing i with
  | nil => simp at h
  | cons p l ih =>
    cases i with
    | zero => simp [sumS, rd]
    | succ i =>
      have := ih (i := i) (by simpa using h)
      simp only [List.take_succ_cons, sumS] at this ⊢
      rw [this]
      simp only [rd_nat, List.getD_cons_succ]
      omega
theorem sumR_take {l : List PageInfo} {i : Nat} (h : i < l.length) : sumR (l.take (i + 1)) = sumR (l.take i) + (rd l (i : Int) PageInfo.zero).Rows := by
  induction l generalizing i with
  | nil => simp at h
  | cons p l ih =>
    cases i with
    | zero => simp [sumR, rd]
    | succ i =>
      have := ih (i := i) (by simpa using h)
      simp only [List.take_succ_cons, sumR] at this ⊢
      rw [this]
      simp only [rd_nat, List.getD_cons_succ]
      omega
theorem sizeC_take {l : List (List PageInfo)} {i : Nat} (h : i < l.length) : sizeC (l.take (i + 1)) = sizeC (l.take i) + sumS (rd l (i : Int) []) := by
  induction l generalizing i with
  | nil => simp at h
  | cons p l ih =>
    cases i with
    | zero => simp [sizeC, rd]
    | succ i =>
      have := ih (i := i) (by simpa using h)
      simp only [List.take_succ_cons, sizeC] at this ⊢
      rw [this]
      simp only [rd_nat, List.getD_cons_succ]
      omega
theorem sizeG_take {l : List Group} {i : Nat} (h : i < l.length) : sizeG (l.take (i + 1)) = sizeG (l.take i) + sizeC (rd l (i : Int) Group.zero).Chunks := by
  induction l generalizing i with
  | nil => simp at h
  | cons p l ih =>
    cases i with
    | zero => simp [sizeG, rd]
    | succ i =>
      have := ih (i := i) (by simpa using h)
      simp only [List.take_succ_cons, sizeG] at this ⊢
      rw [this]
      simp only [rd_nat, List.getD_cons_succ]
      omega
theorem rowsG_take {l : List Group} {i : Nat} (h : i < l.length) : rowsG (l.take (i + 1)) = rowsG (l.take i) + (rd l (i : Int) Group.zero).Rows := by
  induction l generalizing i with
  | nil => simp at h
  | cons p l ih =>
    cases i with
    | zero => simp [rowsG, rd]
    | succ i =>
      have := ih (i := i) (by simpa using h)
      simp only [List.take_succ_cons, rowsG] at this ⊢
      rw [this]
      simp only [rd_nat, List.getD_cons_succ]
      omega
theorem sumS_split (l : List PageInfo) (n : Nat) : sumS (l.take n) + sumS (l.drop n) = sumS l := by
  induction l generalizing n with
  | nil => simp [sumS]
  | cons p l ih =>
    cases n with
    | zero => simp [sumS]
    | succ n => have := ih n; simp only [List.take_succ_cons, List.drop_succ_cons, sumS]; omega
theorem sizeC_split (l : List (List PageInfo)) (n : Nat) : sizeC (l.take n) + sizeC (l.drop n) = sizeC l := by
  induction l generalizing n with
  | nil => simp [sizeC]
  | cons p l ih =>
    cases n with
    | zero => simp [sizeC]
    | succ n => have := ih n; simp only [List.take_succ_cons, List.drop_succ_cons, sizeC]; omega
theorem sizeG_split (l : List Group) (n : Nat) : sizeG (l.take n) + sizeG (l.drop n) = sizeG l := by
  induction l generalizing n with
  | nil => simp [sizeG]
  | cons p l ih =>
    cases n with
    | zero => simp [sizeG]
    | succ n => have := ih n; simp only [List.take_succ_cons, List.drop_succ_cons, sizeG]; omega
theorem take_all {α : Type} {P : α → Prop} {l : List α} (h : ∀ x ∈ l, P x) (n : Nat) : ∀ x ∈ l.take n, P x := fun x hx => h x (List.mem_of_mem_take hx)

/-- Where the first page of a chunk stands; all is at most 2^30. -/
theorem at_group {F : Footer} (h : FootP F) {gi : Nat} (hg : gi < F.Groups.length) : 0 ≤ sizeG (F.Groups.take gi) ∧ sizeG (F.Groups.take gi) + sizeC (rd F.Groups (gi : Int) Group.zero).Chunks ≤ 1073741824 := by
  have a := sizeG_split F.Groups (gi + 1)
  rw [sizeG_take hg] at a
  have b := sizeG_nonneg (drop_all h.groups (gi + 1))
  have c := sizeG_nonneg (take_all h.groups gi)
  have := h.size
  omega
theorem at_chunk {F : Footer} (h : FootP F) {gi c : Nat} (hg : gi < F.Groups.length) (hc : c < F.Cols.length) : 0 ≤ sizeC ((rd F.Groups (gi : Int) Group.zero).Chunks.take c) ∧
    sizeC ((rd F.Groups (gi : Int) Group.zero).Chunks.take c) + sumS (rd (rd F.Groups (gi : Int) Group.zero).Chunks (c : Int) []) ≤ sizeC (rd F.Groups (gi : Int) Group.zero).Chunks := by
  have G := h.groups _ (rd_mem Group.zero hg)
  have a := sizeC_split (rd F.Groups (gi : Int) Group.zero).Chunks (c + 1)
  rw [sizeC_take (by have := G.2.1; omega)] at a
  have b := sizeC_nonneg (drop_all G.sizes (c + 1))
  have c := sizeC_nonneg (take_all G.sizes c)
  omega
theorem at_page {F : Footer} (h : FootP F) {gi c i : Nat} (hg : gi < F.Groups.length) (hc : c < F.Cols.length) (hi : i < (rd (rd F.Groups (gi : Int) Group.zero).Chunks (c : Int) []).length) :
    0 ≤ sumS ((rd (rd F.Groups (gi : Int) Group.zero).Chunks (c : Int) []).take i) ∧ 0 ≤ (rd (rd (rd F.Groups (gi : Int) Group.zero).Chunks (c : Int) []) (i : Int) PageInfo.zero).Size ∧
    sumS ((rd (rd F.Groups (gi : Int) Group.zero).Chunks (c : Int) []).take i) + (rd (rd (rd F.Groups (gi : Int) Group.zero).Chunks (c : Int) []) (i : Int) PageInfo.zero).Size ≤ sumS (rd (rd F.Groups (gi : Int) Group.zero).Chunks (c : Int) []) := by
  have G := h.groups _ (rd_mem Group.zero hg)
  obtain ⟨C, _⟩ := G.2.2 c hc
  have a := sumS_split (rd (rd F.Groups (gi : Int) Group.zero).Chunks (c : Int) []) (i + 1)
  rw [sumS_take hi] at a
  have b := sumS_nonneg (drop_all C (i + 1))
  have c := sumS_nonneg (take_all C i)
  have d := (C _ (rd_mem PageInfo.zero hi)).2.2.2.1
  omega

section
variable {F : Footer} (h : FootP F) {a1 a2 a3 : Int} {v : Int}
include h
theorem place_pages {gi c : Nat} (hg : gi < F.Groups.length) (hc : c < F.Cols.length) {e : Nat} (he : e ≤ (rd (rd F.Groups (gi : Int) Group.zero).Chunks (c : Int) []).length)
    (miss : ∀ i, i < e → ¬ ((gi : Int) = a1 ∧ (c : Int) = a2 ∧ (i : Int) = a3))
    (cont : Ev (fun k => footer_Place.l2 k F a1 a2 a3 (gi : Int) (c : Int) (sizeG (F.Groups.take gi) + sizeC ((rd F.Groups (gi : Int) Group.zero).Chunks.take c) + sumS ((rd (rd F.Groups (gi : Int) Group.zero).Chunks (c : Int) []).take e)) (e : Int)) v) :
    ∀ (n i : Nat), i + n = e → Ev (fun k => footer_Place.l2 k F a1 a2 a3 (gi : Int) (c : Int) (sizeG (F.Groups.take gi) + sizeC ((rd F.Groups (gi : Int) Group.zero).Chunks.take c) + sumS ((rd (rd F.Groups (gi : Int) Group.zero).Chunks (c : Int) []).take i)) (i : Int)) v
  | 0, i, hi => by obtain rfl : i = e := by omega
                   exact cont
  | n + 1, i, hi => by
    have G := h.groups _ (rd_mem Group.zero hg)
    have L := (h.len.c _ (rd_mem Group.zero hg)).2 _ (rd_mem [] (show c < (rd F.Groups (gi : Int) Group.zero).Chunks.length by rw [G.2.1]; exact hc))
    have b1 := at_group h hg
    have b2 := at_chunk h hg hc
    have b3 := at_page h hg hc (show i < _ by omega)
    have ih := place_pages hg hc he miss cont n (i + 1) (by omega)
    have c1 : (i : Int) < ((rd (rd F.Groups (gi : Int) Group.zero).Chunks (c : Int) []).length : Int) := by omega
    have c2 : 0 ≤ (i : Int) ∧ (i : Int) < ((rd (rd F.Groups (gi : Int) Group.zero).Chunks (c : Int) []).length : Int) := by omega
    have j3 : Ev (fun k => footer_Place.j3 k F a1 a2 a3 (gi : Int) (c : Int) (sizeG (F.Groups.take gi) + sizeC ((rd F.Groups (gi : Int) Group.zero).Chunks.take c) + sumS ((rd (rd F.Groups (gi : Int) Group.zero).Chunks (c : Int) []).take i)) (i : Int)) v := by
      refine Ev.step (fun k => by rw [footer_Place.j3]) ?_
      rw [w64_in (n := _ + (rd (rd (rd F.Groups (gi : Int) Group.zero).Chunks (c : Int) []) (i : Int) PageInfo.zero).Size) (by omega) (by omega), succ_w' i (by omega)]
      rw [sumS_take (show i < (rd (rd F.Groups (gi : Int) Group.zero).Chunks (c : Int) []).length by omega), ← Int.add_assoc] at ih
      exact ih
    have m := miss i (by omega)
    refine Ev.step (fun k => by rw [footer_Place.l2]) ?_
    simp only [c1, c2, decide_true, if_true, and_self]
    by_cases e1 : (gi : Int) = a1
    · by_cases e2 : (c : Int) = a2
      · have e3 : ¬ (i : Int) = a3 := fun e3 => m ⟨e1, e2, e3⟩
        simp only [beq_iff_eq, e1, e2, e3, if_true, if_false]
        rw [e1, e2] at j3
        exact j3
      · simp only [beq_iff_eq, e1, e2, if_true, if_false]
        rw [e1] at j3
        exact j3
    · simp only [beq_iff_eq, e1, if_false]
      exact j3
theorem place_chunks {gi : Nat} (hg : gi < F.Groups.length) {e : Nat} (he : e ≤ F.Cols.length)
    (miss : ∀ c i, c < e → i < (rd (rd F.Groups (gi : Int) Group.zero).Chunks (c : Int) []).length → ¬ ((gi : Int) = a1 ∧ (c : Int) = a2 ∧ (i : Int) = a3))
    (cont : Ev (fun k => footer_Place.l1 k F a1 a2 a3 (gi : Int) (sizeG (F.Groups.take gi) + sizeC ((rd F.Groups (gi : Int) Group.zero).Chunks.take e)) (e : Int)) v) :
    ∀ (n c : Nat), c + n = e → Ev (fun k => footer_Place.l1 k F a1 a2 a3 (gi : Int) (sizeG (F.Groups.take gi) + sizeC ((rd F.Groups (gi : Int) Group.zero).Chunks.take c)) (c : Int)) v
  | 0, c, hc => by obtain rfl : c = e := by omega
                   exact cont
  | n + 1, c, hc => by
    have G := h.groups _ (rd_mem Group.zero hg)
    have hl := G.2.1
    have hco := h.cols
    have c1 : (c : Int) < ((rd F.Groups (gi : Int) Group.zero).Chunks.length : Int) := by rw [hl]; omega
    have c2 : 0 ≤ (c : Int) ∧ (c : Int) < ((rd F.Groups (gi : Int) Group.zero).Chunks.length : Int) := by omega
    have ih := place_chunks hg he miss cont n (c + 1) (by omega)
    rw [sizeC_take (show c < (rd F.Groups (gi : Int) Group.zero).Chunks.length by omega), ← Int.add_assoc] at ih
    refine Ev.step (fun k => by rw [footer_Place.l1]) ?_
    simp only [c1, c2, decide_true, if_true, and_self]
    have p := place_pages h hg (show c < F.Cols.length by omega) (e := (rd (rd F.Groups (gi : Int) Group.zero).Chunks (c : Int) []).length) (Nat.le_refl _) (fun i hi => miss c i (by omega) hi) (v := v) (by
      have d1 : ¬ (((rd (rd F.Groups (gi : Int) Group.zero).Chunks (c : Int) []).length : Int) < ((rd (rd F.Groups (gi : Int) Group.zero).Chunks (c : Int) []).length : Int)) := by omega
      refine Ev.step (fun k => by rw [footer_Place.l2]) ?_
      simp only [d1, decide_false, Bool.false_eq_true, if_false]
      rw [succ_w' c (by omega), List.take_length]
      exact ih) _ 0 (Nat.zero_add _)
    simpa [sumS] using p
theorem place_groups {e : Nat} (he : e ≤ F.Groups.length)
    (miss : ∀ g c i, g < e → c < F.Cols.length → i < (rd (rd F.Groups (g : Int) Group.zero).Chunks (c : Int) []).length → ¬ ((g : Int) = a1 ∧ (c : Int) = a2 ∧ (i : Int) = a3))
    (cont : Ev (fun k => footer_Place.l0 k F a1 a2 a3 (sizeG (F.Groups.take e)) (e : Int)) v) :
    ∀ (n g : Nat), g + n = e → Ev (fun k => footer_Place.l0 k F a1 a2 a3 (sizeG (F.Groups.take g)) (g : Int)) v
  | 0, g, hg => by obtain rfl : g = e := by omega
                   exact cont
  | n + 1, g, hg => by
    have hG := h.len.g
    have G := h.groups _ (rd_mem Group.zero (show g < F.Groups.length by omega))
    have hl := G.2.1
    have c1 : (g : Int) < (F.Groups.length : Int) := by omega
    have c2 : 0 ≤ (g : Int) ∧ (g : Int) < (F.Groups.length : Int) := by omega
    have ih := place_groups he miss cont n (g + 1) (by omega)
    rw [sizeG_take (show g < F.Groups.length by omega)] at ih
    refine Ev.step (fun k => by rw [footer_Place.l0]) ?_
    simp only [c1, c2, decide_true, if_true, and_self]
    have p := place_chunks h (show g < F.Groups.length by omega) (e := F.Cols.length) (Nat.le_refl _) (fun c i hc hi => miss g c i (by omega) hc hi) (v := v) (by
      have d1 : ¬ ((F.Cols.length : Int) < ((rd F.Groups (g : Int) Group.zero).Chunks.length : Int)) := by omega
      refine Ev.step (fun k => by rw [footer_Place.l1]) ?_
      simp only [d1, decide_false, Bool.false_eq_true, if_false]
      rw [succ_w' g (by omega), show (rd F.Groups (g : Int) Group.zero).Chunks.take F.Cols.length = (rd F.Groups (g : Int) Group.zero).Chunks from List.take_of_length_le (by omega)]
      exact ih) _ 0 (Nat.zero_add _)
    simpa [sizeC] using p
end
theorem place_start {F : Footer} (h : FootP F) {a1 a2 a3 v : Int} (p : Ev (fun k => footer_Place.l0 k F a1 a2 a3 0 0) v) : Ev (fun k => footer_Place.f k F a1 a2 a3) v := by
  refine Ev.congr (fun k => by rw [footer_Place.f]) (Ev.bind (right_true h) ?_)
  simpa using p
theorem place_at {F : Footer} (h : FootP F) {gi c i : Nat} (hg : gi < F.Groups.length) (hc : c < F.Cols.length) (hi : i < (rd (rd F.Groups (gi : Int) Group.zero).Chunks (c : Int) []).length) :
    Ev (fun k => footer_Place.f k F (gi : Int) (c : Int) (i : Int)) (sizeG (F.Groups.take gi) + sizeC ((rd F.Groups (gi : Int) Group.zero).Chunks.take c) + sumS ((rd (rd F.Groups (gi : Int) Group.zero).Chunks (c : Int) []).take i)) := by
  have G := h.groups _ (rd_mem Group.zero hg)
  have hl := G.2.1
  have c1 : (gi : Int) < (F.Groups.length : Int) := by omega
  have c2 : 0 ≤ (gi : Int) ∧ (gi : Int) < (F.Groups.length : Int) := by omega
  have d1 : (c : Int) < ((rd F.Groups (gi : Int) Group.zero).Chunks.length : Int) := by rw [hl]; omega
  have d2 : 0 ≤ (c : Int) ∧ (c : Int) < ((rd F.Groups (gi : Int) Group.zero).Chunks.length : Int) := by omega
  have e1 : (i : Int) < ((rd (rd F.Groups (gi : Int) Group.zero).Chunks (c : Int) []).length : Int) := by omega
  have e2 : 0 ≤ (i : Int) ∧ (i : Int) < ((rd (rd F.Groups (gi : Int) Group.zero).Chunks (c : Int) []).length : Int) := by omega
  refine place_start h ?_
  have p := place_groups h (a1 := (gi : Int)) (a2 := (c : Int)) (a3 := (i : Int)) (e := gi) (by omega) (fun g c' i' h1 _ _ h2 => by omega) (v := sizeG (F.Groups.take gi) + sizeC ((rd F.Groups (gi : Int) Group.zero).Chunks.take c) + sumS ((rd (rd F.Groups (gi : Int) Group.zero).Chunks (c : Int) []).take i)) (by
    refine Ev.step (fun k => by rw [footer_Place.l0]) ?_
    simp only [c1, c2, decide_true, if_true, and_self]
    have q := place_chunks h hg (a1 := (gi : Int)) (a2 := (c : Int)) (a3 := (i : Int)) (e := c) (by omega) (fun c' i' h1 _ h2 => by omega) (v := sizeG (F.Groups.take gi) + sizeC ((rd F.Groups (gi : Int) Group.zero).Chunks.take c) + sumS ((rd (rd F.Groups (gi : Int) Group.zero).Chunks (c : Int) []).take i)) (by
      refine Ev.step (fun k => by rw [footer_Place.l1]) ?_
      simp only [d1, d2, decide_true, if_true, and_self]
      have r := place_pages h hg hc (a1 := (gi : Int)) (a2 := (c : Int)) (a3 := (i : Int)) (e := i) (by omega) (fun i' h1 h2 => by omega) (v := sizeG (F.Groups.take gi) + sizeC ((rd F.Groups (gi : Int) Group.zero).Chunks.take c) + sumS ((rd (rd F.Groups (gi : Int) Group.zero).Chunks (c : Int) []).take i)) (by
        refine Ev.step (fun k => by rw [footer_Place.l2]) ?_
        simp only [e1, e2, decide_true, if_true, and_self, beq_self_eq_true]
        exact Ev.const _) i 0 (Nat.zero_add _)
      simpa [sumS] using r) c 0 (Nat.zero_add _)
    simpa [sizeC] using q) gi 0 (Nat.zero_add _)
  simpa [sizeG] using p
theorem place_none {F : Footer} (h : FootP F) {gi c : Nat} (hg : gi < F.Groups.length) :
    Ev (fun k => footer_Place.f k F (gi : Int) (c : Int) ((rd (rd F.Groups (gi : Int) Group.zero).Chunks (c : Int) []).length : Int)) (-1) := by
  have c1 : ¬ ((F.Groups.length : Int) < (F.Groups.length : Int)) := by omega
  have c2 : ¬ ((gi : Int) = (F.Groups.length : Int)) := by omega
  refine place_start h ?_
  have p := place_groups h (a1 := (gi : Int)) (a2 := (c : Int)) (a3 := ((rd (rd F.Groups (gi : Int) Group.zero).Chunks (c : Int) []).length : Int)) (e := F.Groups.length) (Nat.le_refl _) (fun g c' i' _ _ h1 h2 => by
      obtain ⟨e1, e2, e3⟩ := h2
      rw [e1, e2] at h1
      omega) (v := -1) (by
    refine Ev.step (fun k => by rw [footer_Place.l0]) ?_
    simp only [c1, c2, decide_false, Bool.false_eq_true, if_false, beq_iff_eq]
    exact Ev.const _) F.Groups.length 0 (Nat.zero_add _)
  simpa [sizeG] using p
theorem place_end {F : Footer} (h : FootP F) : Ev (fun k => footer_Place.f k F (F.Groups.length : Int) 0 0) (sizeG F.Groups) := by
  have c1 : ¬ ((F.Groups.length : Int) < (F.Groups.length : Int)) := by omega
  refine place_start h ?_
  have p := place_groups h (a1 := (F.Groups.length : Int)) (a2 := 0) (a3 := 0) (e := F.Groups.length) (Nat.le_refl _) (fun g c' i' h0 _ h1 h2 => by omega) (v := sizeG F.Groups) (by
    refine Ev.step (fun k => by rw [footer_Place.l0]) ?_
    simp only [c1, decide_false, Bool.false_eq_true, if_false, beq_self_eq_true, if_true, List.take_length]
    exact Ev.const _) F.Groups.length 0 (Nat.zero_add _)
  simpa [sizeG] using p
end Go.Proofs.Ytfaojkajlpojlaa.Abs
