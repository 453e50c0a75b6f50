/- A footer that is right by the document's answer: what that says of it. -/
import Derived.Test.YtfaojkajlpojlaaPFootB
namespace Go.Proofs.Ytfaojkajlpojlaa.Abs
open Go

def sumR : List PageInfo → Int
  | [] => 0
  | p :: l => p.Rows + sumR l
def sumS : List PageInfo → Int
  | [] => 0
  | p :: l => p.Size + sumS l
def sizeC : List (List PageInfo) → Int
  | [] => 0
  | l :: r => sumS l + sizeC r
def sizeG : List Group → Int
  | [] => 0
  | g :: r => sizeC g.Chunks + sizeG r
def rowsG : List Group → Int
  | [] => 0
  | g :: r => g.Rows + rowsG r
theorem succ_w' (i : Nat) (h : i < 9223372036854775807) : IntKind.wrap .i64 ((i : Int) + 1) = ((i + 1 : Nat) : Int) := by rw [w64_in (by omega) (by omega)]; omega

theorem chunk_loop {col : Col} {l : List PageInfo} (hl : l.length ≤ 9223372036854775807) : ∀ (n i : Nat) (x1 x2 : Int), i + n = l.length → 0 ≤ x1 → x1 ≤ 131072 → 0 ≤ x2 → x2 ≤ 1342177280 →
    ∃ a b, Ev (fun k => ref19_chunk.l0 k col l x1 x2 (i : Int)) (a, b) ∧ ((a = -1 ∧ b = -1) ∨ ((∀ p ∈ l.drop i, PageP col p) ∧ a = x1 + sumR (l.drop i) ∧ b = x2 + sumS (l.drop i) ∧ 0 ≤ b ∧ b ≤ 1342177280))
  | 0, i, x1, x2, h, a1, a2, a3, a4 => by
    have c1 : ¬ ((i : Int) < (l.length : Int)) := by omega
    refine ⟨x1, x2, Ev.step (fun k => by rw [ref19_chunk.l0]) (by simp only [c1, decide_false, Bool.false_eq_true, if_false]; exact Ev.const _), .inr ?_⟩
    rw [List.drop_of_length_le (by omega)]
    exact ⟨fun p hp => by simp at hp, by simp [sumR], by simp [sumS], a3, a4⟩
  | n + 1, i, x1, x2, h, a1, a2, a3, a4 => by
    have c1 : (i : Int) < (l.length : Int) := by omega
    have c2 : 0 ≤ (i : Int) ∧ (i : Int) < (l.length : Int) := by omega
    obtain ⟨b, e1, e2⟩ := page_ok col (rd l (i : Int) PageInfo.zero)
    have e1' : Ev (fun k => ref19_pageRight.f k col (rd l (i : Int) PageInfo.zero)) b := Ev.from_ 3 e1
    have fail : ∀ {g : Nat → Option (Int × Int)}, (∀ k, g k = some (-1, -1)) → Ev g (-1, -1) := fun h => Ev.congr h (Ev.const _)
    cases b with
    | false =>
      refine ⟨-1, -1, Ev.step (fun k => by rw [ref19_chunk.l0]) ?_, .inl ⟨rfl, rfl⟩⟩
      simp only [c1, c2, decide_true, if_true, and_self]
      exact Ev.bind e1' (fail fun k => by simp)
    | true =>
      obtain ⟨p1, p2, p3, p4, p5⟩ := e2 rfl
      by_cases h1 : x1 > 65536
      · refine ⟨-1, -1, Ev.step (fun k => by rw [ref19_chunk.l0]) ?_, .inl ⟨rfl, rfl⟩⟩
        simp only [c1, c2, decide_true, if_true, and_self]
        exact Ev.bind e1' (fail fun k => by simp [h1])
      · by_cases h2 : x2 > 1073741824
        · refine ⟨-1, -1, Ev.step (fun k => by rw [ref19_chunk.l0]) ?_, .inl ⟨rfl, rfl⟩⟩
          simp only [c1, c2, decide_true, if_true, and_self]
          exact Ev.bind e1' (fail fun k => by simp [h1, h2])
        · obtain ⟨a, b, r1, r2⟩ := chunk_loop (col := col) hl n (i + 1) (x1 + (rd l (i : Int) PageInfo.zero).Rows) (x2 + (rd l (i : Int) PageInfo.zero).Size) (by omega) (by omega) (by omega) (by omega) (by omega)
          refine ⟨a, b, Ev.step (fun k => by rw [ref19_chunk.l0]) ?_, ?_⟩
          · simp only [c1, c2, decide_true, if_true, and_self]
            refine Ev.bind e1' ?_
            simp only [Bool.not_true, Bool.false_eq_true, if_false, h1, h2, decide_false]
            rw [w64_in (n := x1 + _) (by omega) (by omega), w64_in (n := x2 + _) (by omega) (by omega), succ_w' i (by omega)]
            exact r1
          · rcases r2 with r2 | ⟨r2, r3, r4, r5, r6⟩
            · exact .inl r2
            · refine .inr ?_
              rw [drop_rd PageInfo.zero (show i < l.length by omega)]
              refine ⟨fun p hp => ?_, by simp only [sumR]; omega, by simp only [sumS]; omega, r5, r6⟩
              rcases List.mem_cons.1 hp with rfl | hp
              · exact ⟨p1, p2, p3, p4, p5⟩
              · exact r2 p hp
theorem chunk_ok {col : Col} {l : List PageInfo} (hl : l.length ≤ 9223372036854775807) : ∃ a b, Ev (fun k => ref19_chunk.f k col l) (a, b) ∧ ((a = -1 ∧ b = -1) ∨ ((∀ p ∈ l, PageP col p) ∧ a = sumR l ∧ b = sumS l ∧ 0 ≤ b ∧ b ≤ 1342177280)) := by
  obtain ⟨a, b, h1, h2⟩ := chunk_loop (col := col) hl l.length 0 0 0 (by omega) (by omega) (by omega) (by omega) (by omega)
  refine ⟨a, b, Ev.congr (fun k => by rw [ref19_chunk.f]; rfl) h1, ?_⟩
  rcases h2 with h2 | ⟨h2, h3, h4, h5, h6⟩
  · exact .inl h2
  · exact .inr ⟨by simpa using h2, by simpa using h3, by simpa using h4, h5, h6⟩

def ChunkP (cols : List Col) (g : Group) (c : Nat) : Prop := (∀ p ∈ rd g.Chunks (c : Int) [], PageP (rd cols (c : Int) Col.zero) p) ∧ sumR (rd g.Chunks (c : Int) []) = g.Rows
def GroupP (cols : List Col) (g : Group) : Prop := 1 ≤ g.Rows ∧ g.Chunks.length = cols.length ∧ ∀ c, c < cols.length → ChunkP cols g c
/-- What the size of slices is at most. -/
structure FLen (F : Footer) : Prop where
  g : F.Groups.length ≤ 9223372036854775807
  c : ∀ g ∈ F.Groups, g.Chunks.length ≤ 9223372036854775807 ∧ ∀ l ∈ g.Chunks, l.length ≤ 9223372036854775807
theorem FLen.of {F : Footer} (h : F.wf) : FLen F := by
  obtain ⟨_, _, h1, h2⟩ := h
  exact ⟨h1, fun g hg => ⟨(h2 g hg).2.1, fun l hl => ((h2 g hg).2.2 l hl).1⟩⟩

theorem right_cols {F : Footer} (hF : FLen F) {gi : Nat} (hgi : gi < F.Groups.length) {x1 : Int} {P : Int → Prop} (hlen : (rd F.Groups (gi : Int) Group.zero).Chunks.length = F.Cols.length) (hr : 1 ≤ (rd F.Groups (gi : Int) Group.zero).Rows)
    (hx : 0 ≤ x1 ∧ x1 + (rd F.Groups (gi : Int) Group.zero).Rows ≤ 65536)
    (cont : ∀ s, 0 ≤ s → s ≤ 1073741824 → ∃ b, Ev (fun k => ref19_Right.l0 k F (x1 + (rd F.Groups (gi : Int) Group.zero).Rows) s ((gi + 1 : Nat) : Int)) b ∧ (b = true → P s)) :
    ∀ (n c : Nat) (s : Int), c + n = F.Cols.length → 0 ≤ s → s ≤ 1073741824 → ∃ b, Ev (fun k => ref19_Right.l1 k F x1 (gi : Int) s (c : Int)) b ∧
      (b = true → (∀ c', c ≤ c' → c' < F.Cols.length → ChunkP F.Cols (rd F.Groups (gi : Int) Group.zero) c') ∧ P (s + sizeC ((rd F.Groups (gi : Int) Group.zero).Chunks.drop c)))
  | 0, c, s, h, s0, s1 => by
    have c1 : ¬ ((c : Int) < (((rd F.Groups (gi : Int) Group.zero).Chunks).length : Int)) := by rw [hlen]; omega
    obtain ⟨b, e1, e2⟩ := cont s s0 s1
    refine ⟨b, Ev.step (fun k => by rw [ref19_Right.l1]) ?_, fun hb => ⟨fun c' h1 h2 => by omega, ?_⟩⟩
    · have hg := hF.g
      simp only [c1, decide_false, Bool.false_eq_true, if_false]
      rw [w64_in (n := x1 + _) (by omega) (by omega), succ_w' gi (by omega)]
      exact e1
    · rw [List.drop_of_length_le (by omega)]
      simpa [sizeC] using e2 hb
  | n + 1, c, s, h, s0, s1 => by
    have hg := hF.g
    obtain ⟨q1, q2⟩ := hF.c _ (rd_mem Group.zero hgi)
    have c1 : (c : Int) < (((rd F.Groups (gi : Int) Group.zero).Chunks).length : Int) := by rw [hlen]; omega
    have c2 : 0 ≤ (c : Int) ∧ (c : Int) < (F.Cols.length : Int) := by omega
    have c3 : 0 ≤ (c : Int) ∧ (c : Int) < (((rd F.Groups (gi : Int) Group.zero).Chunks).length : Int) := by omega
    obtain ⟨a, b, e1, e2⟩ := chunk_ok (col := rd F.Cols (c : Int) Col.zero) (l := rd (rd F.Groups (gi : Int) Group.zero).Chunks (c : Int) []) (q2 _ (rd_mem [] (by omega)))
    by_cases h1 : a = (rd F.Groups (gi : Int) Group.zero).Rows
    · rcases e2 with ⟨rfl, rfl⟩ | ⟨e2, e3, e4, e5, e6⟩
      · omega
      · by_cases h2 : s + b > 1073741824
        · refine ⟨false, Ev.step (fun k => by rw [ref19_Right.l1]) ?_, by simp⟩
          simp only [c1, c2, c3, decide_true, if_true, and_self]
          refine Ev.bind e1 (Ev.congr (fun k => ?_) (Ev.const false))
          simp only [h1, bne_self_eq_false, Bool.false_eq_true, if_false]
          rw [w64_in (n := s + b) (by omega) (by omega), if_pos (decide_eq_true h2)]
        · obtain ⟨v, r1, r2⟩ := right_cols hF hgi hlen hr hx cont n (c + 1) (s + b) (by omega) (by omega) (by omega)
          refine ⟨v, Ev.step (fun k => by rw [ref19_Right.l1]) ?_, fun hv => ?_⟩
          · simp only [c1, c2, c3, decide_true, if_true, and_self]
            refine Ev.bind e1 ?_
            simp only [h1, bne_self_eq_false, Bool.false_eq_true, if_false]
            simp only [w64_in (n := s + b) (by omega) (by omega), h2, decide_false, Bool.false_eq_true, if_false]
            rw [succ_w' c (by omega)]
            exact r1
          · obtain ⟨g1, g2⟩ := r2 hv
            refine ⟨fun c' h3 h4 => ?_, ?_⟩
            · rcases Nat.lt_or_ge c c' with h5 | h5
              · exact g1 c' h5 h4
              · obtain rfl : c' = c := by omega
                exact ⟨e2, by rw [← e3, h1]⟩
            · rw [drop_rd [] (show c < (rd F.Groups (gi : Int) Group.zero).Chunks.length by omega)]
              simp only [sizeC]
              rw [← e4, ← Int.add_assoc]
              exact g2
    · refine ⟨false, Ev.step (fun k => by rw [ref19_Right.l1]) ?_, by simp⟩
      simp only [c1, c2, c3, decide_true, if_true, and_self]
      refine Ev.bind e1 (Ev.congr (fun k => ?_) (Ev.const false))
      have : (a != (rd F.Groups (gi : Int) Group.zero).Rows) = true := by simpa using h1
      rw [if_pos this]

theorem right_groups {F : Footer} (hF : FLen F) (h0 : 0 ≤ F.Rows) (h1 : F.Rows ≤ 65536) : ∀ (n gi : Nat) (x1 s : Int), gi + n = F.Groups.length → 0 ≤ x1 → x1 ≤ F.Rows → 0 ≤ s → s ≤ 1073741824 →
    ∃ b, Ev (fun k => ref19_Right.l0 k F x1 s (gi : Int)) b ∧ (b = true → (∀ g ∈ F.Groups.drop gi, GroupP F.Cols g) ∧ x1 + rowsG (F.Groups.drop gi) = F.Rows ∧ s + sizeG (F.Groups.drop gi) ≤ 1073741824)
  | 0, gi, x1, s, h, a1, a2, a3, a4 => by
    have c1 : ¬ ((gi : Int) < (F.Groups.length : Int)) := by omega
    refine ⟨x1 == F.Rows, Ev.step (fun k => by rw [ref19_Right.l0]) (by simp only [c1, decide_false, Bool.false_eq_true, if_false]; exact Ev.const _), fun hb => ?_⟩
    rw [List.drop_of_length_le (by omega)]
    exact ⟨fun g hg => by simp at hg, by simpa [rowsG] using hb, by simpa [sizeG] using a4⟩
  | n + 1, gi, x1, s, h, a1, a2, a3, a4 => by
    have c1 : (gi : Int) < (F.Groups.length : Int) := by omega
    have c2 : 0 ≤ (gi : Int) ∧ (gi : Int) < (F.Groups.length : Int) := by omega
    by_cases h2 : (rd F.Groups (gi : Int) Group.zero).Rows < 1
    · exact ⟨false, Ev.step (fun k => by rw [ref19_Right.l0]) (by simp only [c1, c2, h2, decide_true, if_true, and_self]; exact Ev.const _), by simp⟩
    by_cases h3 : (rd F.Groups (gi : Int) Group.zero).Rows > F.Rows - x1
    · refine ⟨false, Ev.step (fun k => by rw [ref19_Right.l0]) ?_, by simp⟩
      simp only [c1, c2, h2, decide_true, decide_false, if_true, and_self, Bool.false_eq_true, if_false]
      simp only [w64_in (n := F.Rows - x1) (by omega) (by omega), h3, decide_true, if_true]
      exact Ev.const _
    by_cases h4 : ((rd F.Groups (gi : Int) Group.zero).Chunks.length : Int) = (F.Cols.length : Int)
    · obtain ⟨b, e1, e2⟩ := right_cols hF (show gi < F.Groups.length by omega) (x1 := x1) (P := fun s => (∀ g ∈ F.Groups.drop (gi + 1), GroupP F.Cols g) ∧ x1 + (rd F.Groups (gi : Int) Group.zero).Rows + rowsG (F.Groups.drop (gi + 1)) = F.Rows ∧ s + sizeG (F.Groups.drop (gi + 1)) ≤ 1073741824)
        (by omega) (by omega) (by omega) (fun s' b1 b2 => right_groups hF h0 h1 n (gi + 1) _ s' (by omega) (by omega) (by omega) b1 b2) F.Cols.length 0 s (by omega) a3 a4
      refine ⟨b, Ev.step (fun k => by rw [ref19_Right.l0]) ?_, fun hb => ?_⟩
      · simp only [c1, c2, h2, decide_true, decide_false, if_true, and_self, Bool.false_eq_true, if_false]
        simp only [w64_in (n := F.Rows - x1) (by omega) (by omega), h3, decide_false, Bool.false_eq_true, if_false, h4, bne_self_eq_false]
        exact e1
      · obtain ⟨g1, g2, g3, g4⟩ := e2 hb
        rw [drop_rd Group.zero (show gi < F.Groups.length by omega)]
        simp only [List.drop_zero] at g4
        refine ⟨fun g hg => ?_, by simp only [rowsG]; omega, by simp only [sizeG]; omega⟩
        rcases List.mem_cons.1 hg with rfl | hg
        · exact ⟨by omega, by omega, fun c hc => g1 c (Nat.zero_le _) hc⟩
        · exact g2 g hg
    · refine ⟨false, Ev.step (fun k => by rw [ref19_Right.l0]) ?_, by simp⟩
      have h5 : (((rd F.Groups (gi : Int) Group.zero).Chunks.length : Int) != (F.Cols.length : Int)) = true := by simpa using h4
      simp only [c1, c2, h2, decide_true, decide_false, if_true, and_self, Bool.false_eq_true, if_false]
      simp only [w64_in (n := F.Rows - x1) (by omega) (by omega), h3, decide_false, Bool.false_eq_true, if_false, h5, if_true]
      exact Ev.const _

/-- What is known of a footer that is right. -/
structure FootP (F : Footer) : Prop where
  len : FLen F
  cols : F.Cols.length ≤ 64
  colsOk : Ev (fun k => cell_Cols.f k F.Cols) 0
  rows0 : 0 ≤ F.Rows
  rows1 : F.Rows ≤ 65536
  groups : ∀ g ∈ F.Groups, GroupP F.Cols g
  rows : rowsG F.Groups = F.Rows
  size : sizeG F.Groups ≤ 1073741824
theorem ref_right (F : Footer) (hw : F.wf) : ∃ b, Ev (fun k => ref19_Right.f k F) b ∧ (b = true → FootP F) := by
  obtain ⟨v, e1, e2⟩ := cols_ok F.Cols
  have hF := FLen.of hw
  by_cases hv : v = 0
  · subst hv
    by_cases h0 : F.Rows < 0
    · exact ⟨false, Ev.congr (fun k => by rw [ref19_Right.f]) (Ev.bind e1 (Ev.congr (fun k => by simp [h0]) (Ev.const _))), by simp⟩
    by_cases h1 : F.Rows > 65536
    · exact ⟨false, Ev.congr (fun k => by rw [ref19_Right.f]) (Ev.bind e1 (Ev.congr (fun k => by simp [h0, h1]) (Ev.const _))), by simp⟩
    obtain ⟨b, r1, r2⟩ := right_groups hF (by omega) (by omega) F.Groups.length 0 0 0 (by omega) (by omega) (by omega) (by omega) (by omega)
    refine ⟨b, Ev.congr (fun k => by rw [ref19_Right.f]) (Ev.bind e1 ?_), fun hb => ?_⟩
    · simp only [h0, h1, decide_false, Bool.false_eq_true, if_false, bne_self_eq_false]
      exact r1
    · obtain ⟨g1, g2, g3⟩ := r2 hb
      simp only [List.drop_zero] at g1 g2 g3
      exact ⟨hF, (e2 rfl).1, (e2 rfl).2, by omega, by omega, g1, by omega, by omega⟩
  · have : (v != 0) = true := by simpa using hv
    exact ⟨false, Ev.congr (fun k => by rw [ref19_Right.f]) (Ev.bind e1 (Ev.congr (fun k => by simp only [this, if_true]) (Ev.const _))), by simp⟩
end Go.Proofs.Ytfaojkajlpojlaa.Abs
