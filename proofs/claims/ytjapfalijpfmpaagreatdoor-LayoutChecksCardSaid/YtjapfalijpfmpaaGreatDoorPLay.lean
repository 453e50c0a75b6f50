/- The spans of a cut, and what of them is over some rows: plain laws of lists. -/
import Derived.Test.YtjapfalijpfmpaaGreatDoorU7
import Derived.IntWalk
namespace Go.Proofs.YtjapfalijpfmpaaGreatDoor.Abs
open Go

theorem w_in {n : Int} (h0 : -9223372036854775808 ≤ n) (h1 : n ≤ 9223372036854775807) : IntKind.wrap .i64 n = n := IntWalk.i64_in n ⟨h0, h1⟩
theorem rd_nat {α : Type} (l : List α) (i : Nat) (d : α) : rd l (i : Int) d = l.getD i d := by simp [rd]

def spans : Nat → Int → Int → Int → List Span
  | 0, _, _, _ => []
  | n + 1, a, b, c => if a < b then ⟨a, a + min (b - a) c⟩ :: spans n (a + min (b - a) c) b c else []
theorem spans_len : ∀ (n : Nat) (a b c : Int), (spans n a b c).length ≤ n
  | 0, _, _, _ => by simp [spans]
  | n + 1, a, b, c => by
    simp only [spans]
    split
    · simp only [List.length_cons]; exact Nat.succ_le_succ (spans_len n _ b c)
    · simp
theorem cut_l0 {b c : Int} (hb : b ≤ 65536) (hc : 1 ≤ c) (hc2 : c ≤ 9223372036854775807) : ∀ (n k : Nat) (acc : List Span) (a : Int), 0 ≤ a → b - a ≤ n → n < k → acc.length + n ≤ 70000 →
    layout_Cut.l0 k b c acc a = some (acc ++ spans n a b c)
  | n, 0, _, _, _, _, h, _ => by omega
  | 0, k + 1, acc, a, h0, h1, _, _ => by
    rw [layout_Cut.l0, if_neg (by simp; omega)]
    simp [spans]
  | n + 1, k + 1, acc, a, h0, h1, h2, h3 => by
    rw [layout_Cut.l0]
    by_cases hab : a < b
    · rw [if_pos (by simpa using hab), if_pos (by omega)]
      have e1 : IntKind.wrap .i64 (b - a) = b - a := w_in (by omega) (by omega)
      have e2 : (if IntKind.wrap .i64 (b - a) < c then IntKind.wrap .i64 (b - a) else c) = min (b - a) c := by rw [e1]; split <;> omega
      rw [e2]
      have e3 : IntKind.wrap .i64 (a + min (b - a) c) = a + min (b - a) c := w_in (by omega) (by omega)
      rw [e3, cut_l0 hb hc hc2 n k _ _ (by omega) (by omega) (by omega) (by simp; omega)]
      simp [spans, hab]
    · rw [if_neg (by simpa using hab)]
      simp [spans, hab]
theorem rcut_l0 {b c : Int} (hb : b ≤ 65536) (hc : 1 ≤ c) (hc2 : c ≤ 9223372036854775807) : ∀ (n k : Nat) (acc : List Span) (a : Int), 0 ≤ a → b - a ≤ n → 2 * n < k → acc.length + n ≤ 70000 →
    ref18_Cut.l0 k b c a acc = some (acc ++ spans n a b c)
  | n, 0, _, _, _, _, h, _ => by omega
  | 0, k + 1, acc, a, h0, h1, _, _ => by
    rw [ref18_Cut.l0, if_neg (by simp; omega)]
    simp [spans]
  | n + 1, k + 1, acc, a, h0, h1, h2, h3 => by
    rw [ref18_Cut.l0]
    by_cases hab : a < b
    · rw [if_pos (by simpa using hab)]
      have e1 : IntKind.wrap .i64 (b - a) = b - a := w_in (by omega) (by omega)
      obtain ⟨k', rfl⟩ : ∃ k', k = k' + 1 := ⟨k - 1, by omega⟩
      have next : ∀ t, t = a + min (b - a) c → ref18_Cut.j1 (k' + 1) b c a acc t = some (acc ++ spans (n + 1) a b c) := by
        intro t ht
        rw [ref18_Cut.j1, if_pos (by omega), rcut_l0 hb hc hc2 n k' _ _ (by omega) (by omega) (by omega) (by simp; omega)]
        simp [spans, hab, ht]
      rw [e1]
      split
      · rename_i hh
        have : c < b - a := by simpa using hh
        rw [next _ (by rw [w_in (by omega) (by omega)]; omega)]
      · rename_i hh
        have : ¬ c < b - a := by simpa using hh
        rw [next _ (by omega)]
    · rw [if_neg (by simpa using hab)]
      simp [spans, hab]

def cutR (a b c : Int) : List Span := if a < 0 ∨ b > 65536 ∨ c < 1 then [] else spans (b - a).toNat a b c
theorem cut_f {a b c : Int} (hc2 : c ≤ 9223372036854775807) {k : Nat} (hk : 140000 ≤ k) : layout_Cut.f k a b c = some (cutR a b c) := by
  unfold layout_Cut.f cutR
  by_cases h1 : a < 0
  · simp [h1]
  · by_cases h2 : b > 65536
    · simp [h1, h2]
    · by_cases h3 : c < 1
      · simp [h1, h2, h3]
      · rw [if_neg (by simpa using h1), if_neg (by simpa using h2), if_neg (by simpa using h3), if_neg (by omega)]
        exact cut_l0 (by omega) (by omega) hc2 _ k [] a (by omega) (by omega) (by omega) (by simp; omega)
theorem rcut_f {a b c : Int} (hc2 : c ≤ 9223372036854775807) {k : Nat} (hk : 140000 ≤ k) : ref18_Cut.f k a b c = some (cutR a b c) := by
  unfold ref18_Cut.f cutR
  by_cases h1 : a < 0
  · simp [h1]
  · by_cases h2 : b > 65536
    · by_cases h4 : a ≥ b
      · simp [h1, h2, h4]
      · simp [h1, h2, h4]
    · by_cases h3 : c < 1
      · by_cases h4 : a ≥ b
        · simp [h1, h2, h3, h4]
        · simp [h1, h2, h3, h4]
      · by_cases h4 : a ≥ b
        · rw [if_neg (by simpa using h1), if_pos (by simpa using h4), if_neg (by omega)]
          have : (b - a).toNat = 0 := by omega
          rw [this]
          rfl
        · rw [if_neg (by simpa using h1), if_neg (by simpa using h4), if_neg (by simpa using h2), if_neg (by simpa using h3), if_neg (by omega)]
          exact rcut_l0 (by omega) (by omega) hc2 _ k [] a (by omega) (by omega) (by omega) (by simp; omega)
theorem cutR_len (a b c : Int) : (cutR a b c).length ≤ 65536 := by
  unfold cutR
  split
  · simp
  · have := spans_len (b - a).toNat a b c
    omega
theorem small_ok {k : Nat} (hk : 30 ≤ k) : law18_small.f k = some true :=
  mono_le law18_small.mono hk true (by kernel_rfl)

theorem spans_same {l : List Span} (hl : l.length ≤ 65536) : ∀ (n k x : Nat), l.length - x ≤ n → n < k → ref18_Spans.l0 k l l x = some true
  | n, 0, _, _, h => by omega
  | 0, k + 1, x, h, _ => by
    rw [ref18_Spans.l0, if_neg (by simp; omega)]
  | n + 1, k + 1, x, h, h2 => by
    rw [ref18_Spans.l0]
    split
    · rename_i hx
      have hx : x < l.length := by simpa using hx
      rw [if_pos (by omega), if_pos (by omega), if_neg (by simp), w_in (by omega) (by omega)]
      exact spans_same hl n k (x + 1) (by omega) (by omega)
    · rfl
theorem spans_f {l : List Span} (hl : l.length ≤ 65536) {k : Nat} (hk : 140000 ≤ k) : ref18_Spans.f k l l = some true := by
  unfold ref18_Spans.f
  rw [if_neg (by simp)]
  exact spans_same hl l.length k 0 (by omega) (by omega)

/-! ### What is over rows -/
def hit (l : List Span) (f t : Int) (i : Nat) : Prop := (l.getD i Span.zero).From < t ∧ (l.getD i Span.zero).To > f ∧ f < t
theorem c1_spec (s : Span) (t f : Int) : layout_Over_c1_s0.f s t f = some (decide (s.From < t ∧ s.To > f ∧ f < t)) := by
  unfold layout_Over_c1_s0.f
  by_cases h1 : s.From < t <;> by_cases h2 : s.To > f <;> simp [h1, h2]
theorem idx0 {l : List Span} (hl : l.length ≤ 65536) (f t : Int) : ∀ (n k x : Nat), l.length - x ≤ n → n < k →
    ∃ r, slices_IndexFunc_api_Span_s0.l0 k l t f x = some r ∧ ((r = -1 ∧ ∀ i, x ≤ i → i < l.length → ¬ hit l f t i) ∨ ∃ i : Nat, r = i ∧ x ≤ i ∧ i < l.length ∧ hit l f t i ∧ ∀ j, x ≤ j → j < i → ¬ hit l f t j)
  | n, 0, _, _, h => by omega
  | 0, k + 1, x, h, _ => by
    rw [slices_IndexFunc_api_Span_s0.l0, if_neg (by simp; omega)]
    exact ⟨_, rfl, .inl ⟨rfl, fun i h1 h2 => by omega⟩⟩
  | n + 1, k + 1, x, h, h2 => by
    rw [slices_IndexFunc_api_Span_s0.l0]
    split
    · rename_i hx
      have hx : x < l.length := by simpa using hx
      rw [if_pos (by omega), rd_nat, c1_spec]
      simp only [Option.bind_some, decide_eq_true_eq]
      by_cases hh : hit l f t x
      · rw [if_pos (show (l.getD x Span.zero).From < t ∧ (l.getD x Span.zero).To > f ∧ f < t from hh)]
        exact ⟨_, rfl, .inr ⟨x, rfl, by omega, hx, hh, fun j h1 h2 => by omega⟩⟩
      · rw [if_neg (show ¬ ((l.getD x Span.zero).From < t ∧ (l.getD x Span.zero).To > f ∧ f < t) from hh), w_in (by omega) (by omega)]
        obtain ⟨r, h3, h4⟩ := idx0 hl f t n k (x + 1) (by omega) (by omega)
        refine ⟨r, h3, ?_⟩
        rcases h4 with ⟨h4, h5⟩ | ⟨i, h4, h5, h6, h7, h8⟩
        · refine .inl ⟨h4, fun i h1 h2 => ?_⟩
          by_cases e : i = x
          · subst e; exact hh
          · exact h5 i (by omega) h2
        · refine .inr ⟨i, h4, by omega, h6, h7, fun j h1 h2 => ?_⟩
          by_cases e : j = x
          · subst e; exact hh
          · exact h8 j (by omega) h2
    · rename_i hx
      have hx : ¬ x < l.length := by simpa using hx
      exact ⟨_, rfl, .inl ⟨rfl, fun i h1 h2 => by omega⟩⟩
theorem idx1 {l : List Span} (hl : l.length ≤ 65536) (f t : Int) : ∀ (n k x : Nat), l.length - x ≤ n → n < k →
    ∃ r, slices_IndexFunc_api_Span_s1.l0 k l t f x = some r ∧ ((r = -1 ∧ ∀ i, x ≤ i → i < l.length → hit l f t i) ∨ ∃ i : Nat, r = i ∧ x ≤ i ∧ i < l.length ∧ ¬ hit l f t i ∧ ∀ j, x ≤ j → j < i → hit l f t j)
  | n, 0, _, _, h => by omega
  | 0, k + 1, x, h, _ => by
    rw [slices_IndexFunc_api_Span_s1.l0, if_neg (by simp; omega)]
    exact ⟨_, rfl, .inl ⟨rfl, fun i h1 h2 => by omega⟩⟩
  | n + 1, k + 1, x, h, h2 => by
    rw [slices_IndexFunc_api_Span_s1.l0]
    split
    · rename_i hx
      have hx : x < l.length := by simpa using hx
      rw [if_pos (by omega), rd_nat, layout_Over_c2_s0.f, c1_spec]
      simp only [Option.bind_some, Bool.not_eq_true', decide_eq_false_iff_not]
      by_cases hh : hit l f t x
      · rw [if_neg (show ¬ ¬ ((l.getD x Span.zero).From < t ∧ (l.getD x Span.zero).To > f ∧ f < t) from fun h => h hh), w_in (by omega) (by omega)]
        obtain ⟨r, h3, h4⟩ := idx1 hl f t n k (x + 1) (by omega) (by omega)
        refine ⟨r, h3, ?_⟩
        rcases h4 with ⟨h4, h5⟩ | ⟨i, h4, h5, h6, h7, h8⟩
        · refine .inl ⟨h4, fun i h1 h2 => ?_⟩
          by_cases e : i = x
          · subst e; exact hh
          · exact h5 i (by omega) h2
        · refine .inr ⟨i, h4, by omega, h6, h7, fun j h1 h2 => ?_⟩
          by_cases e : j = x
          · subst e; exact hh
          · exact h8 j (by omega) h2
      · rw [if_pos (show ¬ ((l.getD x Span.zero).From < t ∧ (l.getD x Span.zero).To > f ∧ f < t) from hh)]
        exact ⟨_, rfl, .inr ⟨x, rfl, by omega, hx, hh, fun j h1 h2 => by omega⟩⟩
    · rename_i hx
      have hx : ¬ x < l.length := by simpa using hx
      exact ⟨_, rfl, .inl ⟨rfl, fun i h1 h2 => by omega⟩⟩

/-- What 'over' tells of a list. -/
structure OverIs (l : List Span) (f t : Int) (A B : Nat) : Prop where
  le : A ≤ B
  len : B ≤ l.length
  ins : ∀ i, A ≤ i → i < B → hit l f t i
  low : ∀ i, i < A → ¬ hit l f t i
  top : A < B → B < l.length → ¬ hit l f t B
  non : A < B ∨ (A = 0 ∧ B = 0 ∧ ∀ i, i < l.length → ¬ hit l f t i)
theorem hit_drop (l : List Span) (f t : Int) (A i : Nat) : hit (l.drop A) f t i ↔ hit l f t (A + i) := by
  unfold hit
  simp [List.getD]
theorem over_f {l : List Span} (hl : l.length ≤ 65536) (f t : Int) {k : Nat} (hk : 140000 ≤ k) : ∃ A B : Nat, layout_Over.f k l f t = some ((A : Int), (B : Int)) ∧ OverIs l f t A B := by
  obtain ⟨r, h1, h2⟩ := idx0 hl f t l.length k 0 (by omega) (by omega)
  unfold layout_Over.f slices_IndexFunc_api_Span_s0.f
  rw [show ((0 : Nat) : Int) = 0 from rfl] at h1
  rw [h1, Option.bind_some]
  rcases h2 with ⟨rfl, h3⟩ | ⟨A, rfl, _, h4, h5, h6⟩
  · exact ⟨0, 0, by simp, ⟨Nat.le_refl _, Nat.zero_le _, fun i _ h => by omega, fun i h => by omega, fun h => by omega, .inr ⟨rfl, rfl, fun i hi => h3 i (Nat.zero_le _) hi⟩⟩⟩
  · rw [if_neg (by simp), if_pos (by omega)]
    have hd : (l.drop A).length ≤ 65536 := by simp; omega
    obtain ⟨q, g1, g2⟩ := idx1 hd f t (l.drop A).length k 0 (by omega) (by omega)
    rw [show ((0 : Nat) : Int) = 0 from rfl] at g1
    unfold slices_IndexFunc_api_Span_s1.f
    rw [show ((A : Int)).toNat = A by omega, g1, Option.bind_some]
    rcases g2 with ⟨rfl, g3⟩ | ⟨i, rfl, _, g4, g5, g6⟩
    · refine ⟨A, l.length, by simp, ⟨by omega, Nat.le_refl _, fun i hi hi2 => ?_, fun i hi => h6 i (Nat.zero_le _) hi, fun _ h => by omega, .inl h4⟩⟩
      have := g3 (i - A) (Nat.zero_le _) (by simp; omega)
      rw [hit_drop, show A + (i - A) = i by omega] at this
      exact this
    · rw [hit_drop] at g5
      have hi : 0 < i := by
        rcases Nat.eq_zero_or_pos i with e | e
        · subst e; exact absurd h5 g5
        · exact e
      simp only [List.length_drop] at g4
      refine ⟨A, A + i, ?_, ⟨by omega, by omega, fun j hj hj2 => ?_, fun j hj => h6 j (Nat.zero_le _) hj, fun _ _ => g5, .inl (by omega)⟩⟩
      · rw [if_neg (by simp), w_in (by omega) (by omega)]
        simp
      · have := g6 (j - A) (Nat.zero_le _) (by omega)
        rw [hit_drop, show A + (j - A) = j by omega] at this
        exact this

/-! ### The spans of a cut follow one another -/
theorem spans_nth {b c : Int} (hc : 1 ≤ c) : ∀ (n : Nat) (a : Int) (i : Nat), i < (spans n a b c).length →
    ((spans n a b c).getD i Span.zero).From < ((spans n a b c).getD i Span.zero).To ∧ ((spans n a b c).getD i Span.zero).To ≤ b ∧ a ≤ ((spans n a b c).getD i Span.zero).From ∧ (i = 0 → ((spans n a b c).getD i Span.zero).From = a) ∧
    (i + 1 < (spans n a b c).length → ((spans n a b c).getD (i + 1) Span.zero).From = ((spans n a b c).getD i Span.zero).To) ∧ (b - a ≤ n → i + 1 = (spans n a b c).length → ((spans n a b c).getD i Span.zero).To = b)
  | 0, a, i, h => by simp [spans] at h
  | n + 1, a, i, h => by
    simp only [spans] at h ⊢
    by_cases hab : a < b
    · simp only [hab, if_true] at h ⊢
      cases i with
      | zero =>
        refine ⟨by simp; omega, by simp; omega, by simp, fun _ => by simp, fun h1 => ?_, fun h0 h1 => ?_⟩
        · rw [List.length_cons] at h1
          have := (spans_nth (b := b) hc n (a + min (b - a) c) 0 (by omega)).2.2.2.1 rfl
          simpa using this
        · rw [List.length_cons] at h1
          have h2 : (spans n (a + min (b - a) c) b c) = [] := List.length_eq_zero_iff.1 (by omega)
          simp only [List.getD_cons_zero]
          cases n with
          | zero => omega
          | succ n =>
            simp only [spans] at h2
            split at h2
            · cases h2
            · omega
      | succ i =>
        simp only [List.length_cons] at h
        obtain ⟨h1, h2, h3, h4, h5, h6⟩ := spans_nth (b := b) hc n (a + min (b - a) c) i (by omega)
        refine ⟨by simpa using h1, by simpa using h2, by simp only [List.getD_cons_succ]; omega, fun e => by omega, fun e => ?_, fun h0 e => ?_⟩
        · simp only [List.length_cons] at e
          have := h5 (by omega)
          simpa using this
        · simp only [List.length_cons] at e
          have := h6 (by omega) (by omega)
          simpa using this
    · simp [hab] at h

/-- Spans in a row. -/
structure Row (l : List Span) : Prop where
  pos : ∀ i, i < l.length → (l.getD i Span.zero).From < (l.getD i Span.zero).To
  nxt : ∀ i, i + 1 < l.length → (l.getD (i + 1) Span.zero).From = (l.getD i Span.zero).To
theorem cutR_row (a b c : Int) : Row (cutR a b c) := by
  unfold cutR
  split
  · exact ⟨fun i h => by simp at h, fun i h => by simp at h⟩
  · rename_i h
    exact ⟨fun i hi => (spans_nth (by omega) _ a i hi).1, fun i hi => (spans_nth (by omega) _ a i (by omega)).2.2.2.2.1 hi⟩
theorem Row.mono {l : List Span} (h : Row l) : ∀ (j i : Nat), i < j → j < l.length → (l.getD i Span.zero).To ≤ (l.getD j Span.zero).From
  | 0, i, h1, _ => by omega
  | j + 1, i, h1, h2 => by
    rw [h.nxt j h2]
    rcases Nat.lt_or_ge i j with h3 | h3
    · have := h.mono j i h3 (by omega)
      have := h.pos j (by omega)
      omega
    · have : i = j := by omega
      subst this
      omega
theorem Row.conv {l : List Span} (h : Row l) {f t : Int} {i j k : Nat} (hij : i ≤ j) (hjk : j ≤ k) (hk : k < l.length) (h1 : hit l f t i) (h2 : hit l f t k) : hit l f t j := by
  obtain ⟨a1, a2, a3⟩ := h1
  obtain ⟨b1, b2, _⟩ := h2
  refine ⟨?_, ?_, a3⟩
  · rcases Nat.eq_or_lt_of_le hjk with e | e
    · rw [e]; exact b1
    · have := h.mono k j e hk
      have := h.pos j (by omega)
      omega
  · rcases Nat.eq_or_lt_of_le hij with e | e
    · rw [← e]; exact a2
    · have := h.mono j i e (by omega)
      have := h.pos j (by omega)
      omega
theorem OverIs.out {l : List Span} {f t : Int} {A B : Nat} (o : OverIs l f t A B) (h : Row l) {i : Nat} (hi : B ≤ i) (hl : i < l.length) : ¬ hit l f t i := fun hh => by
  rcases o.non with hAB | ⟨_, _, h3⟩
  · refine o.top hAB (by omega) ?_
    exact h.conv (i := A) (j := B) (k := i) o.le hi hl (o.ins A (Nat.le_refl _) hAB) hh
  · exact h3 i hl hh
theorem OverIs.iff {l : List Span} {f t : Int} {A B : Nat} (o : OverIs l f t A B) (h : Row l) {i : Nat} (hl : i < l.length) : hit l f t i ↔ A ≤ i ∧ i < B := by
  constructor
  · intro hh
    refine ⟨?_, ?_⟩
    · rcases Nat.lt_or_ge i A with e | e
      · exact absurd hh (o.low i e)
      · exact e
    · rcases Nat.lt_or_ge i B with e | e
      · exact e
      · exact absurd hh (o.out h e hl)
  · rintro ⟨h1, h2⟩
    exact o.ins i h1 h2

theorem max_spec {x y m n : Int} : decide ((if y > x then y else x) < (if n < m then n else m)) = decide (x < m ∧ x < n ∧ y < m ∧ y < n) := by
  apply decide_eq_decide.2
  split <;> split <;> omega
theorem rover_l0 {l : List Span} (hl : l.length ≤ 65536) (hr : Row l) {f t : Int} {A B : Nat} (o : OverIs l f t A B) : ∀ (n k x : Nat) (x1 x2 : Int), l.length - x ≤ n → n < k → x ≤ l.length →
    ((x1 = -1 ∧ x2 = 0 ∧ ∀ i, i < x → ¬ hit l f t i) ∨ (x1 = A ∧ x2 = min x B ∧ A < B ∧ A < x)) → ref18_Over.l0 k l f t x1 x2 x = some ((A : Int), (B : Int))
  | n, 0, _, _, _, _, h, _, _ => by omega
  | n, k + 1, x, x1, x2, h, h2, h3, hx => by
    rw [ref18_Over.l0]
    by_cases hxl : x < l.length
    · obtain ⟨n', rfl⟩ : ∃ n', n = n' + 1 := ⟨n - 1, by omega⟩
      rw [if_pos (by simpa using hxl), if_pos (by omega), if_pos (by omega), rd_nat, max_spec, w_in (by omega) (by omega)]
      have hp := hr.pos x hxl
      have e : ((l.getD x Span.zero).From < (l.getD x Span.zero).To ∧ (l.getD x Span.zero).From < t ∧ f < (l.getD x Span.zero).To ∧ f < t) ↔ hit l f t x := by
        unfold hit
        constructor
        · rintro ⟨_, h1, h2, h3⟩; exact ⟨h1, h2, h3⟩
        · rintro ⟨h1, h2, h3⟩; exact ⟨hp, h1, h2, h3⟩
      by_cases hh : hit l f t x
      · have hAx := (o.iff hr hxl).1 hh
        rw [if_pos (by simpa using e.2 hh)]
        rcases hx with ⟨rfl, rfl, h4⟩ | ⟨rfl, rfl, h4, h5⟩
        · rw [if_pos (by decide)]
          have : A = x := by
            rcases Nat.lt_or_ge A x with e' | e'
            · exact absurd (o.ins A (Nat.le_refl _) (by omega)) (h4 A e')
            · omega
          subst this
          exact rover_l0 hl hr o n' k (A + 1) _ _ (by omega) (by omega) (by omega) (.inr ⟨rfl, by omega, by omega, by omega⟩)
        · rw [if_neg (by simp)]
          exact rover_l0 hl hr o n' k (x + 1) _ _ (by omega) (by omega) (by omega) (.inr ⟨rfl, by omega, h4, by omega⟩)
      · have hAx : ¬ (A ≤ x ∧ x < B) := fun e' => hh ((o.iff hr hxl).2 e')
        rw [if_neg (fun q => hh (e.1 (by simpa using q)))]
        refine rover_l0 hl hr o n' k (x + 1) _ _ (by omega) (by omega) (by omega) ?_
        rcases hx with ⟨rfl, rfl, h4⟩ | ⟨rfl, rfl, h4, h5⟩
        · refine .inl ⟨rfl, rfl, fun i hi => ?_⟩
          by_cases e' : i = x
          · subst e'; exact hh
          · exact h4 i (by omega)
        · exact .inr ⟨rfl, by omega, h4, by omega⟩
    · rw [if_neg (by simpa using hxl)]
      rcases hx with ⟨rfl, rfl, h4⟩ | ⟨rfl, rfl, h4, h5⟩
      · rw [if_pos (by decide)]
        rcases o.non with h5 | ⟨rfl, rfl, _⟩
        · have := o.len
          exact absurd (o.ins A (Nat.le_refl _) h5) (h4 A (by omega))
        · rfl
      · rw [if_neg (by simp)]
        have := o.len
        rw [show min x B = B by omega]
theorem rover_f {l : List Span} (hl : l.length ≤ 65536) (hr : Row l) {f t : Int} {A B : Nat} (o : OverIs l f t A B) {k : Nat} (hk : 140000 ≤ k) : ref18_Over.f k l f t = some ((A : Int), (B : Int)) :=
  rover_l0 hl hr o l.length k 0 (-1) 0 (by omega) (by omega) (by omega) (.inl ⟨rfl, rfl, fun i h => by omega⟩)

/-! ### The laws -/
theorem few_f {a b c : Int} (h : c ≤ 9223372036854775807) : ∃ r, law18_Few.f a b c = some r := by
  unfold law18_Few.f
  repeat' split
  all_goals first
    | exact ⟨_, rfl⟩
    | (simp only [decide_eq_true_eq] at *; omega)
theorem wf64 {n : Int} (h : (Lit.int .i64 n).wf = true) : -9223372036854775808 ≤ n ∧ n ≤ 9223372036854775807 := by
  simp only [Lit.wf, Bool.and_eq_true, decide_eq_true_eq] at h
  exact h
theorem LayoutCuts_pure (a0 a1 a2 a3 a4 : Int) (w0 : (Lit.int .i64 a0).wf = true) (w1 : (Lit.int .i64 a1).wf = true) (w2 : (Lit.int .i64 a2).wf = true) (w3 : (Lit.int .i64 a3).wf = true) (w4 : (Lit.int .i64 a4).wf = true) : ∃ k, law18_LayoutCuts.f k a0 a1 a2 a3 a4 = some true := by
  have h2 := (wf64 w2).2
  refine ⟨140000, ?_⟩
  unfold law18_LayoutCuts.f
  obtain ⟨r, hr⟩ := few_f (a := a0) (b := a1) h2
  rw [small_ok (by omega), Option.bind_some, hr, Option.bind_some]
  split
  · rfl
  · obtain ⟨A, B, ho, o⟩ := over_f (cutR_len a0 a1 a2) a3 a4 (Nat.le_refl 140000)
    rw [cut_f h2 (by omega), Option.bind_some, rcut_f h2 (by omega), Option.bind_some, ho, Option.bind_some, rover_f (cutR_len a0 a1 a2) (cutR_row a0 a1 a2) o (by omega), Option.bind_some]
    simp [spans_f (cutR_len a0 a1 a2) (Nat.le_refl 140000)]
end Go.Proofs.YtjapfalijpfmpaaGreatDoor.Abs
