/- Stats, pages and columns: where the document's answer says that they are right, so does the program. -/
import Derived.Test.YtfaojkajlpojlaaPFootA
namespace Go.Proofs.Ytfaojkajlpojlaa.Abs
open Go

theorem stat_ok (t : Int) (s : Stat) : ∃ b, (∀ k, ref15_Right.f (k + 3) t s = some b) ∧ (b = true → ∀ k, stat_Right.f (k + 12) t s = some true) := by
  by_cases h1 : t < 0
  · exact ⟨false, fun k => by simp [ref15_Right.f, h1], by simp⟩
  by_cases h2 : t > 3
  · exact ⟨false, fun k => by simp [ref15_Right.f, h1, h2], by simp⟩
  by_cases h3 : s.Nulls < 0
  · exact ⟨false, fun k => by simp [ref15_Right.f, h1, h2, h3], by simp⟩
  by_cases h4 : s.Nulls > 65536
  · exact ⟨false, fun k => by simp [ref15_Right.f, h1, h2, h3, h4], by simp⟩
  have g1 : t ≥ 0 := by omega
  have g2 : t ≤ 3 := by omega
  have g3 : s.Nulls ≥ 0 := by omega
  have g4 : s.Nulls ≤ 65536 := by omega
  have pre : ∀ k, stat_Right.f (k + 12) t s = stat_Right.j0 (k + 12) t s true := fun k => by
    unfold stat_Right.f
    rw [if_pos (decide_eq_true g1), if_pos (decide_eq_true g2), if_pos (decide_eq_true g3), decide_eq_true g4]
  have pre2 : ∀ k, ref15_Right.f (k + 3) t s = (if (!s.Has) = true then (if ((s.Min.Null == false) && ((s.Min.Int == 0) && ((s.Min.Text == []) && (((s.Min.At.X == 0) && ((s.Min.At.Y == 0) && true)) && true)))) = true then (some ((s.Max.Null == false) && ((s.Max.Int == 0) && ((s.Max.Text == []) && (((s.Max.At.X == 0) && ((s.Max.At.Y == 0) && true)) && true))))) else (some false)) else ((ref07_Right.f s.Min (⟨[], t, false⟩ : Col)).bind fun v1 => ((ref07_Right.f s.Max (⟨[], t, false⟩ : Col)).bind fun v2 => (if v1 = true then (if v2 = true then ((ref07_Compare.f (k + 3) t s.Min s.Max).bind fun v3 => (some (decide (v3 ≤ 0)))) else (some false)) else (some false))))) := fun k => by
    unfold ref15_Right.f
    rw [if_neg (by simpa using g1), if_neg (by simpa using g2), if_neg (by simpa using g3), if_neg (by simpa using g4)]
  simp only [pre, pre2]
  cases hs : s.Has
  · simp only [Bool.not_false, if_true]
    by_cases hm : ((s.Min.Null == false) && ((s.Min.Int == 0) && ((s.Min.Text == []) && (((s.Min.At.X == 0) && ((s.Min.At.Y == 0) && true)) && true)))) = true
    · refine ⟨_, fun k => if_pos hm, fun hb k => ?_⟩
      rw [show k + 12 = (k + 11) + 1 from rfl, stat_Right.j0, hs]
      simp only [Bool.not_false, if_true]
      rw [if_pos hm, hb]
    · exact ⟨false, fun k => if_neg hm, by simp⟩
  · simp only [Bool.not_true, Bool.false_eq_true, if_false]
    obtain ⟨b1, e1⟩ := ref07_Right_some s.Min ⟨[], t, false⟩
    obtain ⟨b2, e2⟩ := ref07_Right_some s.Max ⟨[], t, false⟩
    simp only [e1, e2, Option.bind_some]
    cases b1
    · exact ⟨false, fun k => by simp, by simp⟩
    cases b2
    · exact ⟨false, fun k => by simp, by simp⟩
    have p1 := ref07_Right_true e1
    have p2 := ref07_Right_true e2
    obtain ⟨v, c1, c2⟩ := compare_ok p1 p2
    refine ⟨decide (v ≤ 0), fun k => by simp only [if_true, c1, Option.bind_some], fun hb k => ?_⟩
    rw [show k + 12 = (k + 11) + 1 from rfl, stat_Right.j0, hs]
    simp only [Bool.not_true, Bool.false_eq_true, if_false, if_true]
    rw [show k + 11 = (k + 9) + 2 from rfl, cell_Right_ok p1 (k + 9)]
    simp only [Option.bind_some, if_true]
    rw [cell_Right_ok p2 (k + 9)]
    simp only [Option.bind_some, if_true]
    rw [show k + 9 + 2 = (k + 2) + 9 from rfl, c2]
    simp only [Option.bind_some, hb]

def PageP (col : Col) (p : PageInfo) : Prop := (∀ k, footer_page.f (k + 16) col p = some true) ∧ 1 ≤ p.Rows ∧ p.Rows ≤ 65536 ∧ 1 ≤ p.Size ∧ p.Size ≤ 268435456
theorem page_ok (col : Col) (p : PageInfo) : ∃ b, (∀ k, ref19_pageRight.f (k + 3) col p = some b) ∧ (b = true → PageP col p) := by
  obtain ⟨b, e1, e2⟩ := stat_ok col.Type_ p.Stat
  simp only [ref19_pageRight.f, e1, Option.bind_some]
  cases b
  · exact ⟨false, fun k => by simp, by simp⟩
  simp only [if_true]
  by_cases h1 : p.Rows ≥ 1
  case neg => exact ⟨false, fun k => by simp [h1], by simp⟩
  by_cases h2 : p.Rows ≤ 65536
  case neg => exact ⟨false, fun k => by simp [h1, h2], by simp⟩
  by_cases h3 : p.Size ≥ 1
  case neg => exact ⟨false, fun k => by simp [h1, h2, h3], by simp⟩
  by_cases h4 : p.Size ≤ 268435456
  case neg => exact ⟨false, fun k => by simp [h1, h2, h3, h4], by simp⟩
  by_cases h5 : p.Stat.Nulls ≤ p.Rows
  case neg => exact ⟨false, fun k => by simp [h1, h2, h3, h4, h5], by simp⟩
  by_cases h6 : (p.Stat.Has == decide (p.Stat.Nulls < p.Rows)) = true
  case neg => exact ⟨false, fun k => by simp only [decide_eq_true h1, decide_eq_true h2, decide_eq_true h3, decide_eq_true h4, decide_eq_true h5, if_true, if_neg h6], by simp⟩
  have g1 : ¬ p.Rows < 1 := by omega
  have g2 : ¬ p.Rows > 65536 := by omega
  have g3 : ¬ p.Size < 1 := by omega
  have g4 : ¬ p.Size > 268435456 := by omega
  have g5 : ¬ p.Stat.Nulls > p.Rows := by omega
  have pre : ∀ k, footer_page.f (k + 16) col p = (if decide (p.Stat.Nulls > 0) = true then (if (!col.Nullable) = true then some false else footer_page.j0 (k + 15) col p) else footer_page.j0 (k + 15) col p) := fun k => by
    unfold footer_page.f
    rw [if_neg (by simpa using g1), if_neg (by simpa using g2), if_neg (by simpa using g3), decide_eq_false g4, show k + 16 = (k + 15) + 1 from rfl, footer_page.j1]
    rw [if_neg (by decide), if_neg (by simpa using g5), h6]
    rfl
  have j0 : ∀ k, footer_page.j0 (k + 15) col p = some true := fun k => by
    rw [show k + 15 = (k + 14) + 1 from rfl, footer_page.j0, show k + 14 = (k + 2) + 12 from rfl, e2 rfl]
    rfl
  simp only [decide_eq_true h1, decide_eq_true h2, decide_eq_true h3, decide_eq_true h4, decide_eq_true h5, if_true, if_pos h6]
  unfold PageP
  simp only [pre, j0]
  cases hn : col.Nullable
  · simp only [Bool.false_eq_true, if_false, Bool.not_false, if_true]
    by_cases h7 : p.Stat.Nulls == 0
    · refine ⟨true, fun k => by rw [h7], fun _ => ⟨fun k => ?_, by omega, h2, by omega, h4⟩⟩
      have : ¬ (p.Stat.Nulls > 0) := by simp at h7; omega
      simp [this]
    · exact ⟨false, fun k => by simp at h7; simp [h7], by simp⟩
  · exact ⟨true, fun k => by simp, fun _ => ⟨fun k => by simp, by omega, h2, by omega, h4⟩⟩

/-! ### Columns -/
theorem succ_w (i : Nat) (h : i < 1000000) : IntKind.wrap .i64 ((i : Int) + 1) = ((i + 1 : Nat) : Int) := by rw [w64_in (by omega) (by omega)]; omega
def ColP (cols : List Col) (i : Nat) : Prop := (rd cols (i : Int) Col.zero).Name ≠ [] ∧ (rd cols (i : Int) Col.zero).Name.length ≤ 100 ∧
  (∀ j, j < i → (rd cols (j : Int) Col.zero).Name ≠ (rd cols (i : Int) Col.zero).Name) ∧ 0 ≤ (rd cols (i : Int) Col.zero).Type_ ∧ (rd cols (i : Int) Col.zero).Type_ ≤ 3
theorem ref07_Cols_inner {cols : List Col} (hl : cols.length ≤ 64) {i : Nat} (hi : i < cols.length) {rest : Int} {R : Prop} (hr : Ev (fun k => ref07_Cols.l0 k cols ((i + 1 : Nat) : Int)) rest) :
    ∀ (n j : Nat) (x3 : Bool), j + n = i → ∃ v, Ev (fun k => ref07_Cols.l2 k cols (i : Int) x3 (j : Int)) v ∧
      (v = 0 → x3 = false ∧ (∀ j', j ≤ j' → j' < i → (rd cols (j' : Int) Col.zero).Name ≠ (rd cols (i : Int) Col.zero).Name) ∧ 0 ≤ (rd cols (i : Int) Col.zero).Type_ ∧ (rd cols (i : Int) Col.zero).Type_ ≤ 3 ∧ rest = 0)
  | 0, j, x3, hj => by
    obtain rfl : j = i := by omega
    have c1 : ¬ ((j : Int) < (j : Int)) := by omega
    have c2 : 0 ≤ (j : Int) ∧ (j : Int) < (cols.length : Int) := by omega
    cases x3
    · by_cases h1 : (rd cols (j : Int) Col.zero).Type_ < 0
      · exact ⟨3, Ev.step (fun k => by rw [ref07_Cols.l2]) (by simp only [c1, c2, h1, decide_true, decide_false, if_true, Bool.false_eq_true, if_false, and_self]; exact Ev.const _), by simp⟩
      · by_cases h2 : (rd cols (j : Int) Col.zero).Type_ > 3
        · exact ⟨3, Ev.step (fun k => by rw [ref07_Cols.l2]) (by simp only [c1, c2, h1, h2, decide_true, decide_false, if_true, Bool.false_eq_true, if_false, and_self]; exact Ev.const _), by simp⟩
        · refine ⟨rest, Ev.step (fun k => by rw [ref07_Cols.l2]) (by simp only [c1, c2, h1, h2, decide_true, decide_false, if_true, Bool.false_eq_true, if_false, and_self]; rw [succ_w j (by omega)]; exact hr), fun hv => ⟨rfl, fun j' h3 h4 => by omega, by omega, by omega, hv⟩⟩
    · exact ⟨1, Ev.step (fun k => by rw [ref07_Cols.l2]) (by simp only [c1, decide_false, if_true, Bool.false_eq_true, if_false]; exact Ev.const _), by simp⟩
  | n + 1, j, x3, hj => by
    have c1 : (j : Int) < (i : Int) := by omega
    have c2 : 0 ≤ (j : Int) ∧ (j : Int) < (cols.length : Int) := by omega
    have c3 : 0 ≤ (i : Int) ∧ (i : Int) < (cols.length : Int) := by omega
    cases x3
    · obtain ⟨v, h1, h2⟩ := ref07_Cols_inner (R := R) hl hi hr n (j + 1) ((rd cols (j : Int) Col.zero).Name == (rd cols (i : Int) Col.zero).Name) (by omega)
      refine ⟨v, Ev.step (fun k => by rw [ref07_Cols.l2]) (by simp only [c1, c2, c3, decide_true, if_true, Bool.false_eq_true, if_false, and_self]; rw [succ_w j (by omega)]; exact h1), fun hv => ?_⟩
      obtain ⟨g1, g2, g3, g4, g5⟩ := h2 hv
      refine ⟨rfl, fun j' h3 h4 => ?_, g3, g4, g5⟩
      rcases Nat.lt_or_ge j j' with h5 | h5
      · exact g2 j' h5 h4
      · obtain rfl : j' = j := by omega
        simpa using g1
    · obtain ⟨v, h1, h2⟩ := ref07_Cols_inner (R := R) hl hi hr n (j + 1) true (by omega)
      exact ⟨v, Ev.step (fun k => by rw [ref07_Cols.l2]) (by simp only [c1, decide_true, if_true]; rw [succ_w j (by omega)]; exact h1), fun hv => by have := (h2 hv).1; cases this⟩
theorem ref07_Cols_loop {cols : List Col} (hl : cols.length ≤ 64) : ∀ (n i : Nat), i + n = cols.length → ∃ v, Ev (fun k => ref07_Cols.l0 k cols (i : Int)) v ∧ (v = 0 → ∀ i', i ≤ i' → i' < cols.length → ColP cols i')
  | 0, i, h => by
    have c1 : ¬ ((i : Int) < (cols.length : Int)) := by omega
    exact ⟨0, Ev.step (fun k => by rw [ref07_Cols.l0]) (by simp only [c1, decide_false, Bool.false_eq_true, if_false]; exact Ev.const _), fun _ i' h1 h2 => by omega⟩
  | n + 1, i, h => by
    have c1 : (i : Int) < (cols.length : Int) := by omega
    have c2 : 0 ≤ (i : Int) ∧ (i : Int) < (cols.length : Int) := by omega
    obtain ⟨rest, r1, r2⟩ := ref07_Cols_loop hl n (i + 1) (by omega)
    have inner := fun x3 => ref07_Cols_inner (R := True) hl (show i < cols.length by omega) r1 i 0 x3 (by omega)
    by_cases h1 : (rd cols (i : Int) Col.zero).Name = []
    · obtain ⟨v, e1, e2⟩ := inner true
      exact ⟨v, Ev.step (fun k => by rw [ref07_Cols.l0]) (by simp only [c1, c2, h1, decide_true, if_true, and_self, beq_self_eq_true]; exact Ev.step (fun k => by rw [ref07_Cols.j1]; rfl) e1), fun hv => by have := (e2 hv).1; cases this⟩
    · have h1' : ((rd cols (i : Int) Col.zero).Name == []) = false := by simpa using h1
      obtain ⟨v, e1, e2⟩ := inner (decide (((rd cols (i : Int) Col.zero).Name.length : Int) > 100))
      refine ⟨v, Ev.step (fun k => by rw [ref07_Cols.l0]) (by simp only [c1, c2, h1', decide_true, if_true, and_self, Bool.false_eq_true, if_false]; exact Ev.step (fun k => by rw [ref07_Cols.j1]; rfl) e1), fun hv i' h3 h4 => ?_⟩
      obtain ⟨g1, g2, g3, g4, g5⟩ := e2 hv
      rcases Nat.lt_or_ge i i' with h5 | h5
      · exact r2 g5 i' h5 h4
      · obtain rfl : i' = i := by omega
        exact ⟨h1, by simp at g1; omega, fun j hj => g2 j (by omega) hj, g3, g4⟩
theorem mget_mset {β : Type} (m : List (List UInt8 × β)) (k k' : List UInt8) (v : β) : mget (mset m k v) k' = if k = k' then some v else mget m k' := by
  induction m with
  | nil => by_cases h : k = k' <;> simp [mset, mget, h]
  | cons p m ih =>
    unfold mset
    by_cases h1 : p.1 = k
    · have : (p.1 == k) = true := by simpa using h1
      rw [if_pos this]
      by_cases h : k = k'
      · subst h; simp [mget]
      · have h2 : ¬ p.1 = k' := fun e => h (h1.symm.trans e)
        simp [mget, h, h2]
    · have : ¬ (p.1 == k) = true := by simpa using h1
      rw [if_neg this]
      by_cases h2 : p.1 = k'
      · have h : ¬ k = k' := fun e => h1 (h2.trans e.symm)
        simp [mget, h, h2]
      · simp only [mget]
        have h3 : ¬ (p.1 == k') = true := by simpa using h2
        rw [if_neg h3, if_neg h3]
        exact ih
theorem cell_Cols_loop {cols : List Col} (hl : cols.length ≤ 64) (hg : ∀ i, i < cols.length → ColP cols i) : ∀ (n i : Nat) (m : List (List UInt8 × Int)), i + n = cols.length →
    (∀ j, i ≤ j → j < cols.length → mget m (rd cols (j : Int) Col.zero).Name = none) → Ev (fun k => cell_Cols.l0 k cols (i : Int) m) 0
  | 0, i, m, h, _ => by
    have c1 : ¬ ((i : Int) < (cols.length : Int)) := by omega
    exact Ev.step (fun k => by rw [cell_Cols.l0]) (by simp only [c1, decide_false, Bool.false_eq_true, if_false]; exact Ev.const _)
  | n + 1, i, m, h, hm => by
    have c1 : (i : Int) < (cols.length : Int) := by omega
    have c2 : 0 ≤ (i : Int) ∧ (i : Int) < (cols.length : Int) := by omega
    obtain ⟨g1, g2, g3, g4, g5⟩ := hg i (by omega)
    have e0 : mget m (rd cols (i : Int) Col.zero).Name = none := hm i (Nat.le_refl _) (by omega)
    have e1 : IntKind.wrap .i64 (((mget m (rd cols (i : Int) Col.zero).Name).getD 0) + 1) = 1 := by rw [e0]; decide
    have e2 : (mget (mset m (rd cols (i : Int) Col.zero).Name 1) (rd cols (i : Int) Col.zero).Name) = some 1 := by rw [mget_mset]; simp
    have n1 : ((rd cols (i : Int) Col.zero).Name == []) = false := by simpa using g1
    have n2 : ¬ (((rd cols (i : Int) Col.zero).Name.length : Int) > 100) := by omega
    have n3 : ¬ ((rd cols (i : Int) Col.zero).Type_ < 0) := by omega
    have n4 : ¬ ((rd cols (i : Int) Col.zero).Type_ ≥ 4) := by omega
    have ih := cell_Cols_loop hl hg n (i + 1) (mset m (rd cols (i : Int) Col.zero).Name 1) (by omega) (fun j h1 h2 => by
      rw [mget_mset]
      have := (hg j h2).2.2.1 i (by omega)
      rw [if_neg this]
      exact hm j (by omega) h2)
    refine Ev.step (fun k => by rw [cell_Cols.l0]) ?_
    simp only [c1, c2, n1, n2, e1, e2, decide_true, decide_false, if_true, and_self, Bool.false_eq_true, if_false, Option.getD_some]
    refine Ev.step (g := fun k => cell_Cols.l0 k cols ((i + 1 : Nat) : Int) (mset m (rd cols (i : Int) Col.zero).Name 1)) (fun k => ?_) ih
    rw [cell_Cols.j1]
    have z : decide ((1 : Int) > 1) = false := by decide
    simp only [z, n3, n4, e1, decide_false, Bool.false_eq_true, if_false]
    rw [succ_w i (by omega)]
/-- Columns. -/
theorem cols_ok (cols : List Col) : ∃ v, Ev (fun k => ref07_Cols.f k cols) v ∧ (v = 0 → cols.length ≤ 64 ∧ Ev (fun k => cell_Cols.f k cols) 0) := by
  by_cases h : (cols.length : Int) > 64
  · exact ⟨4, Ev.congr (fun k => by rw [ref07_Cols.f]) (by simp only [h, decide_true, if_true]; exact Ev.const _), by simp⟩
  · have hl : cols.length ≤ 64 := by omega
    obtain ⟨v, h1, h2⟩ := ref07_Cols_loop hl cols.length 0 (by omega)
    refine ⟨v, Ev.congr (fun k => by rw [ref07_Cols.f]) (by simp only [h, decide_false, Bool.false_eq_true, if_false]; exact h1), fun hv => ⟨hl, Ev.congr (fun k => by rw [cell_Cols.f]) ?_⟩⟩
    simp only [h, decide_false, Bool.false_eq_true, if_false]
    exact cell_Cols_loop hl (fun i hi => h2 hv i (Nat.zero_le _) hi) cols.length 0 [] (by omega) (fun j _ _ => rfl)
end Go.Proofs.Ytfaojkajlpojlaa.Abs
