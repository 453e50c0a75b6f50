/- Spans cut into spans: as many over some rows as the parts have together. -/
import Derived.Test.YtjapfalijpfmpaaGreatDoorPLayB
namespace Go.Proofs.YtjapfalijpfmpaaGreatDoor.Abs
open Go

def hitS (f t : Int) (s : Span) : Bool := decide (s.From < t ∧ s.To > f ∧ f < t)
def cnt (f t : Int) (l : List Span) : Nat := (l.filter (hitS f t)).length
theorem cnt_append (f t : Int) (l1 l2 : List Span) : cnt f t (l1 ++ l2) = cnt f t l1 + cnt f t l2 := by simp [cnt]
theorem hit_iff {l : List Span} {f t : Int} {i : Nat} (h : i < l.length) : hit l f t i ↔ hitS f t l[i] = true := by
  simp [hit, hitS, List.getD, h]
theorem over_cnt {l : List Span} {f t : Int} {A B : Nat} (hr : Row l) (o : OverIs l f t A B) : cnt f t l = B - A := by
  have h1 := o.le
  have h2 := o.len
  have e : l = l.take A ++ ((l.drop A).take (B - A) ++ (l.drop A).drop (B - A)) := by rw [List.take_append_drop, List.take_append_drop]
  rw [e, cnt_append, cnt_append]
  have z1 : cnt f t (l.take A) = 0 := by
    unfold cnt
    rw [List.length_eq_zero_iff, List.filter_eq_nil_iff]
    intro s hs
    obtain ⟨i, hi, rfl⟩ := List.getElem_of_mem hs
    simp only [List.length_take] at hi
    have := o.low i (by omega)
    rw [hit_iff (by omega)] at this
    simpa using this
  have z2 : cnt f t ((l.drop A).drop (B - A)) = 0 := by
    unfold cnt
    rw [List.length_eq_zero_iff, List.filter_eq_nil_iff]
    intro s hs
    obtain ⟨i, hi, rfl⟩ := List.getElem_of_mem hs
    simp only [List.length_drop] at hi
    have := o.out hr (i := A + (B - A) + i) (by omega) (by omega)
    rw [hit_iff (by omega)] at this
    simpa [Nat.add_assoc] using this
  have z3 : cnt f t ((l.drop A).take (B - A)) = B - A := by
    have : ((l.drop A).take (B - A)).filter (hitS f t) = (l.drop A).take (B - A) := by
      rw [List.filter_eq_self]
      intro s hs
      obtain ⟨i, hi, rfl⟩ := List.getElem_of_mem hs
      simp only [List.length_take, List.length_drop] at hi
      have := o.ins (A + i) (by omega) (by omega)
      rw [hit_iff (by omega)] at this
      simpa using this
    unfold cnt
    rw [this]
    simp
    omega
  omega

theorem spans_fuel {b c : Int} (hc : 1 ≤ c) : ∀ (n m : Nat) (a : Int), b - a ≤ n → b - a ≤ m → spans n a b c = spans m a b c
  | 0, 0, _, _, _ => rfl
  | 0, m + 1, a, h, _ => by simp only [spans]; rw [if_neg (by omega)]
  | n + 1, 0, a, _, h => by simp only [spans]; rw [if_neg (by omega)]
  | n + 1, m + 1, a, h1, h2 => by
    simp only [spans]
    split
    · rw [spans_fuel hc n m _ (by omega) (by omega)]
    · rfl
def cutL (a b c : Int) : List Span := spans (b - a).toNat a b c
theorem cutL_nil {a b c : Int} (h : b ≤ a) : cutL a b c = [] := by unfold cutL; rw [show (b - a).toNat = 0 by omega]; rfl
theorem cutL_step {a b c : Int} (hc : 1 ≤ c) (h : a < b) : cutL a b c = ⟨a, a + min (b - a) c⟩ :: cutL (a + min (b - a) c) b c := by
  unfold cutL
  obtain ⟨n, hn⟩ : ∃ n, (b - a).toNat = n + 1 := ⟨(b - a).toNat - 1, by omega⟩
  rw [hn]
  simp only [spans, if_pos h]
  rw [spans_fuel hc n (b - (a + min (b - a) c)).toNat _ (by omega) (by omega)]
theorem cutL_split {b c : Int} (hc : 1 ≤ c) : ∀ (j : Nat) (a : Int), a + j * c ≤ b → cutL a b c = cutL a (a + j * c) c ++ cutL (a + j * c) b c
  | 0, a, h => by
    rw [show a + ((0 : Nat) : Int) * c = a by simp, cutL_nil (Int.le_refl a)]
    rfl
  | j + 1, a, h => by
    have e : ((j + 1 : Nat) : Int) * c = j * c + c := by rw [Int.natCast_add, Int.add_mul]; simp
    have hj : 0 ≤ (j : Int) * c := Int.mul_nonneg (by omega) (by omega)
    rw [e] at h ⊢
    have ih := cutL_split (b := b) hc j (a + c) (by omega)
    rw [show a + c + ↑j * c = a + (↑j * c + c) by omega] at ih
    rw [cutL_step hc (show a < b by omega), show min (b - a) c = c by omega, ih, cutL_step hc (show a < a + (↑j * c + c) by omega), show min (a + (↑j * c + c) - a) c = c by omega]
    rfl
theorem flat {b c m : Int} (hc : 1 ≤ c) (hm : 1 ≤ m) : ∀ (n : Nat) (a : Int), b - a ≤ n → (spans n a b (c * m)).flatMap (fun g => cutL g.From g.To c) = cutL a b c
  | 0, a, h => by simp only [spans, List.flatMap_nil]; rw [cutL_nil (by omega)]
  | n + 1, a, h => by
    have hcm : 1 ≤ c * m := Int.mul_pos (by omega) (by omega)
    simp only [spans]
    split
    · rename_i hab
      rw [List.flatMap_cons, flat hc hm n _ (by omega)]
      by_cases hp : c * m ≤ b - a
      · have e : a + min (b - a) (c * m) = a + (m.toNat : Int) * c := by rw [show (m.toNat : Int) = m by omega, Int.mul_comm m c]; omega
        rw [e]
        exact (cutL_split hc m.toNat a (by rw [← e]; omega)).symm
      · have e : a + min (b - a) (c * m) = b := by omega
        rw [e, cutL_nil (Int.le_refl b), List.append_nil]
    · rw [List.flatMap_nil, cutL_nil (by omega)]

def total (f t c : Int) : List Span → Nat
  | [] => 0
  | g :: r => cnt f t (cutL g.From g.To c) + total f t c r
theorem total_flat (f t c : Int) : ∀ l : List Span, total f t c l = cnt f t (l.flatMap fun g => cutL g.From g.To c)
  | [] => rfl
  | g :: r => by rw [List.flatMap_cons, cnt_append, total, total_flat f t c r]
theorem cutR_eq {a b c : Int} (h0 : 0 ≤ a) (h1 : b ≤ 65536) (h2 : 1 ≤ c) : cutR a b c = cutL a b c := by unfold cutR cutL; rw [if_neg (by omega)]

theorem parts_l0 {f t c v28 v29 : Int} (hc : 1 ≤ c) (hc2 : c ≤ 1000) {l : List Span} (hl : l.length ≤ 65536) (hin : ∀ i, i < l.length → 0 ≤ (l.getD i Span.zero).From ∧ (l.getD i Span.zero).To ≤ 65536) {T : Nat} (hT : T ≤ 65536) (hv : IntKind.wrap .i64 (v29 - v28) = T) :
    ∀ (n k x : Nat) (p : Nat), l.length - x ≤ n → 140000 + n < k → p + total f t c (l.drop x) = T → law18_LayoutParts.l0 k c f t true v28 v29 l p x = some true
  | n, 0, _, _, _, h, _ => by omega
  | 0, k + 1, x, p, h1, h2, h3 => by
    rw [law18_LayoutParts.l0, if_neg (by simp; omega), if_pos rfl, hv]
    rw [List.drop_eq_nil_of_le (by omega)] at h3
    simp only [total, Nat.add_zero] at h3
    simp [h3]
  | n + 1, k + 1, x, p, h1, h2, h3 => by
    rw [law18_LayoutParts.l0]
    by_cases hx : x < l.length
    · obtain ⟨g1, g2⟩ := hin x hx
      rw [if_pos (by simpa using hx), if_pos (by omega), if_pos (by omega), rd_nat, cut_f (by omega) (by omega), Option.bind_some]
      have hl2 := cutR_len (l.getD x Span.zero).From (l.getD x Span.zero).To c
      obtain ⟨A, B, ho, o⟩ := over_f hl2 f t (k := k) (by omega)
      rw [ho, Option.bind_some]
      have hcn := over_cnt (cutR_row _ _ _) o
      rw [cutR_eq g1 g2 hc] at hcn
      have h5 := o.le
      have h6 := o.len
      have e : l.drop x = l.getD x Span.zero :: l.drop (x + 1) := by
        rw [List.drop_eq_getElem_cons hx]
        simp [List.getD, hx]
      rw [e, total] at h3
      rw [w_in (n := (p : Int) + B) (by omega) (by omega), w_in (n := (p : Int) + B - A) (by omega) (by omega), w_in (n := (x : Int) + 1) (by omega) (by omega)]
      have := parts_l0 (f := f) (t := t) hc hc2 hl hin hT hv n k (x + 1) (p + B - A) (by omega) (by omega) (by omega)
      rw [show ((p + B - A : Nat) : Int) = (p : Int) + B - A by omega] at this
      exact this
    · rw [if_neg (by simpa using hx), if_pos rfl, hv]
      rw [List.drop_eq_nil_of_le (by omega)] at h3
      simp only [total, Nat.add_zero] at h3
      simp [h3]
theorem LayoutParts_pure (a0 a1 a2 a3 a4 : Int) (w0 : (Lit.int .i64 a0).wf = true) (w1 : (Lit.int .i64 a1).wf = true) (w2 : (Lit.int .i64 a2).wf = true) (w3 : (Lit.int .i64 a3).wf = true) (w4 : (Lit.int .i64 a4).wf = true) : ∃ k, law18_LayoutParts.f k a0 a1 a2 a3 a4 = some true := by
  refine ⟨300000, ?_⟩
  unfold law18_LayoutParts.f
  rw [small_ok (by omega), Option.bind_some]
  split
  · rfl
  · rename_i g1
    have g1 : ¬ a1 < 1 := by simpa using g1
    split
    · rfl
    · rename_i g2
      have g2 : ¬ a1 > 1000 := by simpa using g2
      split
      · rfl
      · rename_i g3
        have g3 : ¬ a2 < 1 := by simpa using g3
        split
        · rfl
        · rename_i g4
          have g4 : ¬ a2 > 50 := by simpa using g4
          split
          · rfl
          · rename_i g5
            have g5 : ¬ a0 < 0 := by simpa using g5
            split
            · rfl
            · rename_i g6
              have g6 : ¬ a0 > 3000 := by simpa using g6
              split
              · rfl
              · split
                · rfl
                · have hm : a1 * a2 ≤ 1000 * 50 := Int.mul_le_mul (by omega) (by omega) (by omega) (by omega)
                  have hm0 : 1 ≤ a1 * a2 := Int.mul_pos (by omega) (by omega)
                  obtain ⟨A, B, ho, o⟩ := over_f (cutR_len 0 a0 a1) a3 a4 (k := 300000) (by omega)
                  rw [cut_f (by omega) (by omega), Option.bind_some, ho, Option.bind_some, w_in (by omega) (by omega), cut_f (by omega) (by omega), Option.bind_some]
                  have hcn := over_cnt (cutR_row _ _ _) o
                  have h5 := o.le
                  have h6 := o.len
                  have hl := cutR_len 0 a0 a1
                  have hl2 := cutR_len 0 a0 (a1 * a2)
                  refine parts_l0 (T := B - A) (by omega) (by omega) hl2 (fun i hi => ?_) (by omega) (by rw [w_in (by omega) (by omega)]; omega) (cutR 0 a0 (a1 * a2)).length _ 0 0 (by omega) (by omega) ?_
                  · rcases cut_or (b := a0) (c := a1 * a2) with e | e
                    · rw [e] at hi; simp at hi
                    · have := e.low i hi
                      have := e.high i hi
                      omega
                  · rw [Nat.zero_add, List.drop_zero, total_flat, cutR_eq (by omega) (by omega) hm0]
                    have := flat (b := a0) (c := a1) (m := a2) (by omega) (by omega) (a0 - 0).toNat 0 (by omega)
                    unfold cutL at this ⊢
                    rw [this]
                    rw [cutR_eq (by omega) (by omega) (by omega)] at hcn
                    exact hcn
end Go.Proofs.YtjapfalijpfmpaaGreatDoor.Abs
