/- Three more laws of spans: all rows once; what is over rows; parts. -/
import Derived.Test.YtjapfalijpfmpaaGreatDoorPLay
namespace Go.Proofs.YtjapfalijpfmpaaGreatDoor.Abs
open Go

theorem pd {p : Prop} [Decidable p] (h : p) : decide p = true := decide_eq_true h
theorem nd {p : Prop} [Decidable p] (h : ¬ p) : ¬ decide p = true := fun q => h (of_decide_eq_true q)
theorem nb {x y : Int} (h : x = y) : ¬ (x != y) = true := by subst h; simp
theorem spans_size {b c : Int} (hc : 1 ≤ c) : ∀ (n : Nat) (a : Int) (i : Nat), i < (spans n a b c).length →
    ((spans n a b c).getD i Span.zero).To - ((spans n a b c).getD i Span.zero).From ≤ c ∧ (i + 1 < (spans n a b c).length → ((spans n a b c).getD i Span.zero).To - ((spans n a b c).getD i Span.zero).From = c)
  | 0, a, i, h => by simp [spans] at h
  | n + 1, a, i, h => by
    simp only [spans] at h ⊢
    by_cases hab : a < b
    · simp only [hab, if_true] at h ⊢
      cases i with
      | zero =>
        refine ⟨by simp; omega, fun h1 => ?_⟩
        rw [List.length_cons] at h1
        simp only [List.getD_cons_zero]
        have h2 : 0 < (spans n (a + min (b - a) c) b c).length := by omega
        cases n with
        | zero => simp [spans] at h2
        | succ n =>
          simp only [spans] at h2
          split at h2
          · omega
          · simp at h2
      | succ i =>
        rw [List.length_cons] at h
        obtain ⟨h1, h2⟩ := spans_size (b := b) hc n (a + min (b - a) c) i (by omega)
        refine ⟨by simpa using h1, fun e => ?_⟩
        rw [List.length_cons] at e
        have := h2 (by omega)
        simpa using this
    · simp [hab] at h

/-- A cut of rows that are some. -/
structure CutIs (l : List Span) (a b c : Int) : Prop where
  row : Row l
  some : 0 < l.length
  first : (l.getD 0 Span.zero).From = a
  last : (l.getD (l.length - 1) Span.zero).To = b
  size : ∀ i, i < l.length → (l.getD i Span.zero).To - (l.getD i Span.zero).From ≤ c
  full : ∀ i, i + 1 < l.length → (l.getD i Span.zero).To - (l.getD i Span.zero).From = c
  low : ∀ i, i < l.length → a ≤ (l.getD i Span.zero).From
  high : ∀ i, i < l.length → (l.getD i Span.zero).To ≤ b
theorem cutIs {a b c : Int} (h0 : 0 ≤ a) (h1 : b ≤ 65536) (h2 : 1 ≤ c) (h3 : a < b) : CutIs (cutR a b c) a b c := by
  have hrow := cutR_row a b c
  have e : cutR a b c = spans (b - a).toNat a b c := by unfold cutR; rw [if_neg (by omega)]
  rw [e] at hrow ⊢
  have hs : 0 < (spans (b - a).toNat a b c).length := by
    obtain ⟨n, hn⟩ : ∃ n, (b - a).toNat = n + 1 := ⟨(b - a).toNat - 1, by omega⟩
    rw [hn]
    simp [spans, h3]
  have key := fun i hi => spans_nth (b := b) h2 (b - a).toNat a i hi
  have key2 := fun i hi => spans_size (b := b) h2 (b - a).toNat a i hi
  exact ⟨hrow, hs, (key 0 hs).2.2.2.1 rfl, (key _ (by omega)).2.2.2.2.2 (by omega) (by omega), fun i hi => (key2 i hi).1, fun i hi => (key2 i (by omega)).2 hi, fun i hi => (key i hi).2.2.1, fun i hi => (key i hi).2.1⟩

theorem all_l1 {l : List Span} (hl : l.length ≤ 65536) {a b c : Int} (h : CutIs l a b c) (ha : 0 ≤ a) (hb : b ≤ 65536) : ∀ (n k x : Nat) (p : Int), l.length - x ≤ n → 2 * n + 1 < k → x ≤ l.length → (x < l.length → (l.getD x Span.zero).From = p) → (x = l.length → p = b) →
    law18_LayoutAll.l1 k b c true l p x = some true
  | n, 0, _, _, _, h, _, _, _ => by omega
  | 0, k + 1, x, p, h1, _, h3, h4, h5 => by
    rw [law18_LayoutAll.l1, if_neg (by simp; omega), if_pos rfl, h5 (by omega)]
    simp
  | n + 1, k + 1, x, p, h1, h2, h3, h4, h5 => by
    rw [law18_LayoutAll.l1]
    by_cases hx : x < l.length
    · have f1 := h4 hx
      have f2 := h.row.pos x hx
      have f3 := h.size x hx
      have f4 := h.low x hx
      have f5 := h.high x hx
      obtain ⟨k', rfl⟩ : ∃ k', k = k' + 1 := ⟨k - 1, by omega⟩
      have next : law18_LayoutAll.j2 (k' + 1) b c true l x = some true := by
        rw [law18_LayoutAll.j2, if_pos (by omega), rd_nat, w_in (by omega) (by omega)]
        refine all_l1 hl h ha hb n k' (x + 1) _ (by omega) (by omega) (by omega) (fun e => h.row.nxt x e) (fun e => ?_)
        have := h.last
        rwa [show l.length - 1 = x by omega] at this
      rw [if_pos (by simpa using hx), if_pos (by omega), rd_nat, if_neg (nb f1), if_pos (by omega), if_neg (nd (by omega)), if_pos (by omega), w_in (by omega) (by omega), if_neg (nd (by omega)), w_in (by omega) (by omega)]
      by_cases hx2 : x + 1 < l.length
      · rw [if_pos (pd (by omega)), if_pos (by omega), if_neg (nb (by have := h.full x hx2; omega))]
        exact next
      · rw [if_neg (nd (by omega))]
        exact next
    · rw [if_neg (by simpa using hx), if_pos rfl, h5 (by omega)]
      simp
theorem LayoutAll_pure (a0 a1 a2 : Int) (w0 : (Lit.int .i64 a0).wf = true) (w1 : (Lit.int .i64 a1).wf = true) (w2 : (Lit.int .i64 a2).wf = true) : ∃ k, law18_LayoutAll.f k a0 a1 a2 = some true := by
  have h2 := (wf64 w2).2
  refine ⟨140010, ?_⟩
  unfold law18_LayoutAll.f
  obtain ⟨r, hr⟩ := few_f (a := a0) (b := a1) h2
  rw [small_ok (by omega), Option.bind_some, hr, Option.bind_some]
  split
  · rfl
  · rw [cut_f h2 (by omega), Option.bind_some]
    have none : (a0 < 0 ∨ a1 > 65536 ∨ a2 < 1 ∨ a0 ≥ a1) → cutR a0 a1 a2 = [] := by
      intro h
      unfold cutR
      split
      · rfl
      · rw [show (a1 - a0).toNat = 0 by omega]; rfl
    have bad : (a0 < 0 ∨ a1 > 65536 ∨ a2 < 1 ∨ a0 ≥ a1) → law18_LayoutAll.j0 140010 a0 a1 a2 true (cutR a0 a1 a2) true = some true := by
      intro h
      rw [none h, law18_LayoutAll.j0]
      simp
    split
    · rename_i h; exact bad (.inl (by simpa using h))
    · split
      · rename_i h; exact bad (.inr (.inl (by simpa using h)))
      · split
        · rename_i h; exact bad (.inr (.inr (.inl (by simpa using h))))
        · rename_i g1 g2 g3
          by_cases g4 : a0 ≥ a1
          · rw [decide_eq_true g4]
            exact bad (.inr (.inr (.inr g4)))
          · have g1 : ¬ a0 < 0 := by simpa using g1
            have g2 : ¬ a1 > 65536 := by simpa using g2
            have g3 : ¬ a2 < 1 := by simpa using g3
            rw [decide_eq_false g4, law18_LayoutAll.j0, if_neg (by simp)]
            have hc := cutIs (a := a0) (b := a1) (c := a2) (by omega) (by omega) (by omega) (by omega)
            have hl := cutR_len a0 a1 a2
            exact all_l1 hl hc (by omega) (by omega) (cutR a0 a1 a2).length _ 0 a0 (by omega) (by omega) (by omega) (fun _ => hc.first) (fun e => by have := hc.some; omega)

/-! ### What is over rows, of all rows -/
theorem over_j2 {A B : Nat} {k : Nat} (hk : 0 < k) (h : A < B ∨ (A = 0 ∧ B = 0)) : law18_LayoutOver.j2 k true A B = some true := by
  obtain ⟨k', rfl⟩ : ∃ k', k = k' + 1 := ⟨k - 1, by omega⟩
  rw [law18_LayoutOver.j2, if_pos rfl]
  split
  · rfl
  · rename_i hh
    have : ¬ A < B := by simpa using hh
    rcases h with h | ⟨rfl, rfl⟩
    · omega
    · simp
theorem over_end {l : List Span} (hl : l.length ≤ 65536) {b c f t : Int} (h : l = [] ∨ CutIs l 0 b c) {A B : Nat} (o : OverIs l f t A B) {k x : Nat} (hx : l.length ≤ x) (hk : 1 < k) :
    law18_LayoutOver.l0 k b f t true l A B x = some true := by
  obtain ⟨k, rfl⟩ : ∃ k', k = k' + 1 := ⟨k - 1, by omega⟩
  have hBl := o.len
  have hj := over_j2 (A := A) (B := B) (k := k) (by omega) (o.non.imp id (fun q => ⟨q.1, q.2.1⟩))
  rw [law18_LayoutOver.l0, if_neg (by simp; omega)]
  by_cases hAB : A < B
  · rcases h with rfl | h
    · simp at hBl; omega
    · have hA := o.ins A (Nat.le_refl _) hAB
      have hB := o.ins (B - 1) (by omega) (by omega)
      have e : IntKind.wrap .i64 ((B : Int) - 1) = ((B - 1 : Nat) : Int) := by rw [w_in (by omega) (by omega)]; omega
      have last : (if 0 ≤ (IntKind.wrap .i64 ((B : Int) - 1)) ∧ (IntKind.wrap .i64 ((B : Int) - 1)) < (l.length : Int) then (if (decide (((rd l (IntKind.wrap .i64 ((B : Int) - 1)) Span.zero).To) < t)) = true then (if 0 ≤ (IntKind.wrap .i64 ((B : Int) - 1)) ∧ (IntKind.wrap .i64 ((B : Int) - 1)) < (l.length : Int) then (if (((rd l (IntKind.wrap .i64 ((B : Int) - 1)) Span.zero).To) != b) = true then (some false) else (law18_LayoutOver.j2 k true A B)) else none) else (law18_LayoutOver.j2 k true A B)) else none) = some true := by
        rw [e, if_pos (by omega), rd_nat]
        split
        · rename_i hh
          have hh : (l.getD (B - 1) Span.zero).To < t := by simpa using hh
          rw [if_pos (by omega)]
          have : (l.getD (B - 1) Span.zero).To = b := by
            rcases Nat.lt_or_ge B l.length with e' | e'
            · exfalso
              refine o.top hAB e' ?_
              have n1 := h.row.nxt (B - 1) (by omega)
              rw [show B - 1 + 1 = B by omega] at n1
              have n2 := h.row.pos B e'
              exact ⟨by omega, by have := hB.2.1; omega, hB.2.2⟩
            · have := h.last
              rwa [show l.length - 1 = B - 1 by omega] at this
          rw [if_neg (nb (by omega))]
          exact hj
        · exact hj
      rw [if_pos (by simpa using hAB), if_pos (by omega), rd_nat]
      split
      · rename_i hh
        have hh : (l.getD A Span.zero).From > f := by simpa using hh
        rw [if_pos (by omega)]
        have : (l.getD A Span.zero).From = 0 := by
          rcases Nat.eq_zero_or_pos A with e' | e'
          · rw [e']; exact h.first
          · exfalso
            refine o.low (A - 1) (by omega) ?_
            have n1 := h.row.nxt (A - 1) (by omega)
            rw [show A - 1 + 1 = A by omega] at n1
            have n2 := h.row.pos (A - 1) (by omega)
            have := hA.1
            exact ⟨by omega, by omega, hA.2.2⟩
        rw [if_neg (nb (by omega))]
        exact last
      · exact last
  · rw [if_neg (by simpa using hAB)]
    exact hj
theorem over_l0 {l : List Span} (hl : l.length ≤ 65536) {b c f t : Int} (h : l = [] ∨ CutIs l 0 b c) {A B : Nat} (o : OverIs l f t A B) : ∀ (n k x : Nat), l.length - x ≤ n → 2 * n + 1 < k →
    law18_LayoutOver.l0 k b f t true l A B x = some true
  | n, 0, _, _, h => by omega
  | 0, k + 1, x, h1, h2 => over_end hl h o (by omega) (by omega)
  | n + 1, k + 1, x, h1, h2 => by
    by_cases hx : x < l.length
    · have hr : Row l := by
        rcases h with rfl | h
        · simp at hx
        · exact h.row
      obtain ⟨k', rfl⟩ : ∃ k', k = k' + 1 := ⟨k - 1, by omega⟩
      have next : ∀ d : Bool, (d = true ↔ hit l f t x) → law18_LayoutOver.j1 (k' + 1) b f t true l A B x d = some true := by
        intro d hd
        have hi := o.iff hr hx
        have ih := over_l0 hl h o n k' (x + 1) (by omega) (by omega)
        rw [law18_LayoutOver.j1, w_in (by omega) (by omega)]
        have ih' : law18_LayoutOver.l0 k' b f t true l A B ((x : Int) + 1) = some true := ih
        split
        · rename_i hh
          have hh : A ≤ x := by simpa using hh
          have : d = decide ((x : Int) < B) := by
            rw [Bool.eq_iff_iff, hd, hi]
            simp [hh]
          rw [this, if_neg (by simp)]
          exact ih'
        · rename_i hh
          have hh : ¬ A ≤ x := by simpa using hh
          have : d = false := by
            cases hd' : d with
            | false => rfl
            | true => exact absurd (hi.1 (hd.1 hd')).1 hh
          rw [this, if_neg (by simp)]
          exact ih'
      rw [law18_LayoutOver.l0, if_pos (by simpa using hx), if_pos (by omega), rd_nat]
      split
      · rename_i g1
        have g1 : (l.getD x Span.zero).From < t := by simpa using g1
        rw [if_pos (by omega)]
        split
        · rename_i g2
          have g2 : (l.getD x Span.zero).To > f := by simpa using g2
          refine next _ ?_
          simp only [decide_eq_true_eq]
          exact ⟨fun h => ⟨g1, g2, h⟩, fun h => h.2.2⟩
        · rename_i g2
          have g2 : ¬ (l.getD x Span.zero).To > f := by simpa using g2
          refine next false ⟨fun h => (by cases h), fun h => absurd h.2.1 g2⟩
      · rename_i g1
        have g1 : ¬ (l.getD x Span.zero).From < t := by simpa using g1
        refine next false ⟨fun h => (by cases h), fun h => absurd h.1 g1⟩
    · exact over_end hl h o (by omega) (by omega)
theorem cut_or {b c : Int} : cutR 0 b c = [] ∨ CutIs (cutR 0 b c) 0 b c := by
  by_cases h : (0 : Int) < b ∧ b ≤ 65536 ∧ 1 ≤ c
  · exact .inr (cutIs (by omega) h.2.1 h.2.2 h.1)
  · refine .inl ?_
    unfold cutR
    split
    · rfl
    · rw [show (b - 0).toNat = 0 by omega]; rfl
theorem LayoutOver_pure (a0 a1 a2 a3 : Int) (w0 : (Lit.int .i64 a0).wf = true) (w1 : (Lit.int .i64 a1).wf = true) (w2 : (Lit.int .i64 a2).wf = true) (w3 : (Lit.int .i64 a3).wf = true) : ∃ k, law18_LayoutOver.f k a0 a1 a2 a3 = some true := by
  have h2 := (wf64 w1).2
  refine ⟨140000, ?_⟩
  unfold law18_LayoutOver.f
  obtain ⟨r, hr⟩ := few_f (a := 0) (b := a0) h2
  rw [small_ok (by omega), Option.bind_some, hr, Option.bind_some]
  split
  · rfl
  · have hl := cutR_len 0 a0 a1
    obtain ⟨A, B, ho, o⟩ := over_f hl a2 a3 (Nat.le_refl 140000)
    rw [cut_f h2 (by omega), Option.bind_some, ho, Option.bind_some]
    have h5 := o.le
    have h6 := o.len
    rw [if_neg (by simp), if_neg (by simp; omega), if_neg (by simp; omega)]
    exact over_l0 hl cut_or o _ _ 0 (Nat.le_refl _) (by omega)
end Go.Proofs.YtjapfalijpfmpaaGreatDoor.Abs
