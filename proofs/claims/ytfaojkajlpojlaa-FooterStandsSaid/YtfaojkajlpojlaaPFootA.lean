/- Cells and stats: where the document's answer says that they are right, so does the program. -/
import Derived.Test.YtfaojkajlpojlaaVA
import Derived.Test.YtfaojkajlpojlaaPEv
namespace Go.Proofs.Ytfaojkajlpojlaa.Abs
open Go

/-- A cell that may stand in a column of a type, one without nulls. -/
def CellP (t : Int) (c : Cell) : Prop := c.Null = false ∧
  ((t = 0 ∧ c.Text = [] ∧ c.At.X = 0 ∧ c.At.Y = 0) ∨ (t = 1 ∧ (c.Int = 0 ∨ c.Int = 1) ∧ c.Text = [] ∧ c.At.X = 0 ∧ c.At.Y = 0) ∨
   (t = 2 ∧ c.Int = 0 ∧ c.Text.length ≤ 65536 ∧ c.At.X = 0 ∧ c.At.Y = 0) ∨ (t = 3 ∧ c.Int = 0 ∧ c.Text = [] ∧ -1048576 ≤ c.At.X ∧ c.At.X ≤ 1048576 ∧ -1048576 ≤ c.At.Y ∧ c.At.Y ≤ 1048576))

theorem ref06_Right_eq (p : Point) : ref06_Right.f p = some (decide (-1048576 ≤ p.X ∧ p.X ≤ 1048576 ∧ -1048576 ≤ p.Y ∧ p.Y ≤ 1048576)) := by
  unfold ref06_Right.f
  by_cases h1 : -1048576 ≤ p.X <;> by_cases h2 : p.X ≤ 1048576 <;> by_cases h3 : -1048576 ≤ p.Y <;> by_cases h4 : p.Y ≤ 1048576 <;> simp [h1, h2, h3, h4, ge_iff_le]
theorem ref07_Right_some (c : Cell) (col : Col) : ∃ b, ref07_Right.f c col = some b := by
  unfold ref07_Right.f
  rw [ref06_Right_eq]
  simp only [Option.bind_some]
  repeat' split
  all_goals exact ⟨_, rfl⟩
theorem ref07_Right_true {c : Cell} {t : Int} (h : ref07_Right.f c ⟨[], t, false⟩ = some true) : CellP t c := by
  unfold ref07_Right.f at h
  rw [ref06_Right_eq] at h
  unfold CellP
  obtain ⟨nl, n, tx, ⟨x, y⟩⟩ := c
  cases nl
  · refine ⟨rfl, ?_⟩
    by_cases t0 : t = 0
    · subst t0; simp at h; exact .inl ⟨rfl, h.1, h.2.1, h.2.2⟩
    · by_cases t1 : t = 1
      · subst t1
        simp at h
        split at h
        · rename_i hx
          split at h
          · rename_i h0; exact .inr (.inl ⟨rfl, .inl h0, hx.1, hx.2.1, hx.2.2⟩)
          · simp at h; exact .inr (.inl ⟨rfl, .inr h, hx.1, hx.2.1, hx.2.2⟩)
        · simp at h
      · by_cases t2 : t = 2
        · subst t2
          simp at h
          split at h
          · rename_i hx
            simp at h
            exact .inr (.inr (.inl ⟨rfl, hx.1, (show tx.length ≤ 65536 by omega), hx.2.1, hx.2.2⟩))
          · simp at h
        · by_cases t3 : t = 3
          · subst t3
            simp at h
            split at h
            · rename_i hx
              simp at h
              exact .inr (.inr (.inr ⟨rfl, h.1, h.2, hx.1, hx.2.1, hx.2.2.1, hx.2.2.2⟩))
            · simp at h
          · simp [t0, t1, t2, t3] at h
  · simp at h
theorem point_Right_eq (p : Point) : point_Right.f p = some (decide (-1048576 ≤ p.X ∧ p.X ≤ 1048576 ∧ -1048576 ≤ p.Y ∧ p.Y ≤ 1048576)) := by
  have e : IntKind.wrap .i64 (0 - 1048576) = -1048576 := by decide
  unfold point_Right.f point_in.f
  rw [e]
  by_cases h1 : -1048576 ≤ p.X <;> by_cases h2 : p.X ≤ 1048576 <;> by_cases h3 : -1048576 ≤ p.Y <;> by_cases h4 : p.Y ≤ 1048576 <;> simp [h1, h2, h3, h4, ge_iff_le]
theorem cell_Right_ok {c : Cell} {t : Int} (h : CellP t c) (k : Nat) : cell_Right.f (k + 2) c ⟨[], t, false⟩ = some true := by
  obtain ⟨nl, n, tx, ⟨x, y⟩⟩ := c
  obtain ⟨h0, h⟩ := h
  simp only at h0
  subst h0
  rcases h with ⟨rfl, h1, h2, h3⟩ | ⟨rfl, h0, h1, h2, h3⟩ | ⟨rfl, h0, h1, h2, h3⟩ | ⟨rfl, h0, h1, h2, h3, h4, h5⟩
  · simp only at h1 h2 h3
    subst h1 h2 h3
    simp [cell_Right.f, cell_Right.j0, cell_plain.f, cell_plain.j0, point_Right_eq]
  · simp only at h0 h1 h2 h3
    subst h1 h2 h3
    rcases h0 with rfl | rfl <;> simp [cell_Right.f, cell_Right.j0, cell_plain.f, cell_plain.j0, point_Right_eq]
  · simp only at h0 h1 h2 h3
    subst h0 h2 h3
    have h9 : ¬ ((65536 : Int) < (tx.length : Int)) := by omega
    simp [cell_Right.f, cell_Right.j0, cell_plain.f, cell_plain.j0, point_Right_eq, h9]
  · simp only at h0 h1 h2 h3 h4 h5
    subst h0 h1
    simp [cell_Right.f, cell_Right.j0, cell_plain.f, cell_plain.j0, point_Right_eq, h2, h3, h4, h5]

theorem sq_le {x : Int} (h0 : -1048576 ≤ x) (h1 : x ≤ 1048576) : 0 ≤ x * x ∧ x * x ≤ 1099511627776 := by
  constructor
  · rcases (show 0 ≤ x ∨ x ≤ 0 by omega) with h | h
    · exact Int.mul_nonneg h h
    · exact Int.mul_nonneg_of_nonpos_of_nonpos h h
  · have h2 : x.natAbs ≤ 1048576 := by omega
    have h3 := Nat.mul_le_mul h2 h2
    rw [← Int.natAbs_mul] at h3
    omega
theorem ref06_Norm_eq {p : Point} (h0 : -1048576 ≤ p.X) (h1 : p.X ≤ 1048576) (h2 : -1048576 ≤ p.Y) (h3 : p.Y ≤ 1048576) : ref06_Norm.f p = some (p.X * p.X + p.Y * p.Y) := by
  have a := sq_le h0 h1
  have b := sq_le h2 h3
  unfold ref06_Norm.f
  rw [w64_in (n := p.X * p.X) (by omega) (by omega), w64_in (n := p.Y * p.Y) (by omega) (by omega), w64_in (by omega) (by omega)]
theorem point_Norm_eq {p : Point} (h0 : -1048576 ≤ p.X) (h1 : p.X ≤ 1048576) (h2 : -1048576 ≤ p.Y) (h3 : p.Y ≤ 1048576) : point_Norm.f p = some (p.X * p.X + p.Y * p.Y) := by
  have a := sq_le h0 h1
  have b := sq_le h2 h3
  have e : p.X * p.X - p.Y * (-p.Y) = p.X * p.X + p.Y * p.Y := by rw [Int.mul_neg]; omega
  unfold point_Norm.f
  rw [e, if_pos (by omega), if_pos (by omega), if_pos (by omega), if_pos (by omega)]
def cmpI (a b : Int) : Int := if a < b then -1 else if a > b then 1 else 0
theorem cmp_Compare_eq (a b : Int) : cmp_Compare_int.f a b = some (cmpI a b) := by
  unfold cmp_Compare_int.f cmp_isNaN_int.f cmpI
  by_cases h1 : a < b <;> by_cases h2 : a > b <;> simp [h1, h2]
theorem ref06_sign_eq (a b : Int) : ref06_sign.f a b = some (cmpI a b) := by
  unfold ref06_sign.f cmpI
  by_cases h1 : a < b <;> by_cases h2 : a > b <;> simp [h1, h2]
theorem ref07_ints_eq (a b : Int) : ref07_ints.f a b = some (cmpI a b) := by
  unfold ref07_ints.f cmpI
  by_cases h1 : a < b <;> by_cases h2 : a > b <;> simp [h1, h2]
theorem cmpI_zero {a b : Int} : cmpI a b = 0 ↔ a = b := by
  unfold cmpI; split
  · omega
  · split <;> omega
theorem cmp_Or3 (a b c : Int) (k : Nat) : cmp_Or_int.f (k + 4) [a, b, c] = some (if a ≠ 0 then a else if b ≠ 0 then b else c) := by
  have e1 : IntKind.wrap .i64 1 = 1 := by decide
  have e2 : IntKind.wrap .i64 2 = 2 := by decide
  have e3 : IntKind.wrap .i64 3 = 3 := by decide
  by_cases ha : a = 0
  · by_cases hb : b = 0
    · by_cases hc : c = 0
      · simp [cmp_Or_int.f, cmp_Or_int.l0, rd, e1, e2, e3, ha, hb, hc]
      · simp [cmp_Or_int.f, cmp_Or_int.l0, rd, e1, e2, e3, ha, hb, hc]
    · simp [cmp_Or_int.f, cmp_Or_int.l0, rd, e1, e2, e3, ha, hb]
  · simp [cmp_Or_int.f, cmp_Or_int.l0, rd, ha]
theorem cmp_less (a b : List UInt8) : cmpS a b = if Op.bytesLess a b then -1 else if !(Op.bytesLess a b || a == b) then 1 else 0 := by
  unfold cmpS
  induction a generalizing b with
  | nil => cases b <;> rfl
  | cons x a ih =>
    cases b with
    | nil => rfl
    | cons y b =>
      simp only [Lib.compareBytes, Op.bytesLess]
      by_cases h1 : x < y
      · simp [h1]
      · by_cases h2 : y < x
        · have : x ≠ y := fun e => by subst e; exact h1 h2
          simp [h1, h2, this]
        · have : x = y := UInt8.le_antisymm (UInt8.not_lt.1 h2) (UInt8.not_lt.1 h1)
          subst this
          simp only [h1, if_false, ih b]
          simp
/-- Both say the same of two cells that may stand in a column. -/
theorem compare_ok {a b : Cell} {t : Int} (ha : CellP t a) (hb : CellP t b) : ∃ v, (∀ k, ref07_Compare.f (k + 3) t a b = some v) ∧ (∀ k, cell_Compare.f (k + 9) t a b = some v) := by
  obtain ⟨na, ia, ta, ⟨xa, ya⟩⟩ := a
  obtain ⟨nb, ib, tb, ⟨xb, yb⟩⟩ := b
  obtain ⟨a0, ha⟩ := ha
  obtain ⟨b0, hb⟩ := hb
  simp only at a0 b0
  subst a0 b0
  by_cases t0 : t = 0
  · subst t0
    exact ⟨cmpI ia ib, fun k => by simp [ref07_Compare.f, ref07_Compare.j0, ref07_Compare.j2, ref07_ints_eq], fun k => by simp [cell_Compare.f, cell_Compare.j0, cell_Compare.j1, cmp_Compare_eq]⟩
  · by_cases t1 : t = 1
    · subst t1
      exact ⟨cmpI ia ib, fun k => by simp [ref07_Compare.f, ref07_Compare.j0, ref07_Compare.j2, ref07_ints_eq], fun k => by simp [cell_Compare.f, cell_Compare.j0, cell_Compare.j1, cmp_Compare_eq]⟩
    · by_cases t2 : t = 2
      · subst t2
        refine ⟨cmpS ta tb, fun k => ?_, fun k => by simp [cell_Compare.f, cell_Compare.j0, cell_Compare.j1, strings_Compare.f, internal_bytealg_CompareString.f]⟩
        rw [cmp_less]
        by_cases h1 : Op.bytesLess ta tb = true
        · simp [ref07_Compare.f, ref07_Compare.j0, ref07_Compare.j2, h1]
        · by_cases h2 : ta = tb
          · subst h2
            simp [ref07_Compare.f, ref07_Compare.j0, ref07_Compare.j2, h1]
          · simp [ref07_Compare.f, ref07_Compare.j0, ref07_Compare.j2, h1, h2]
      · rcases ha with ⟨h, _⟩ | ⟨h, _⟩ | ⟨h, _⟩ | ⟨t3, _, _, a1, a2, a3, a4⟩
        · exact absurd h t0
        · exact absurd h t1
        · exact absurd h t2
        · rcases hb with ⟨h, _⟩ | ⟨h, _⟩ | ⟨h, _⟩ | ⟨_, _, _, b1, b2, b3, b4⟩
          · exact absurd h t0
          · exact absurd h t1
          · exact absurd h t2
          · subst t3
            simp only at a1 a2 a3 a4 b1 b2 b3 b4
            have n1 := ref06_Norm_eq (p := ⟨xa, ya⟩) a1 a2 a3 a4
            have n2 := ref06_Norm_eq (p := ⟨xb, yb⟩) b1 b2 b3 b4
            have n3 := point_Norm_eq (p := ⟨xa, ya⟩) a1 a2 a3 a4
            have n4 := point_Norm_eq (p := ⟨xb, yb⟩) b1 b2 b3 b4
            simp only at n1 n2 n3 n4
            generalize xa * xa + ya * ya = u at *
            generalize xb * xb + yb * yb = w at *
            refine ⟨if cmpI u w ≠ 0 then cmpI u w else if cmpI xa xb ≠ 0 then cmpI xa xb else cmpI ya yb, fun k => ?_, fun k => ?_⟩
            · have e1 := @cmpI_zero u w
              have e2 := @cmpI_zero xa xb
              have e3 : ∀ z, cmpI z z = 0 := fun z => cmpI_zero.2 rfl
              by_cases hu : u = w
              · subst hu
                by_cases hx : xa = xb
                · subst hx
                  simp [ref07_Compare.f, ref07_Compare.j0, ref07_Compare.j2, ref06_Compare.f, n1, n2, ref06_sign_eq, e3]
                · have : cmpI xa xb ≠ 0 := fun e => hx (e2.1 e)
                  simp [ref07_Compare.f, ref07_Compare.j0, ref07_Compare.j2, ref06_Compare.f, n1, n2, ref06_sign_eq, hx, e3, this]
              · have : cmpI u w ≠ 0 := fun e => hu (e1.1 e)
                simp [ref07_Compare.f, ref07_Compare.j0, ref07_Compare.j2, ref06_Compare.f, n1, n2, ref06_sign_eq, hu, this]
            · have o := cmp_Or3 (cmpI u w) (cmpI xa xb) (cmpI ya yb) (k + 3)
              simp only [cell_Compare.f, cell_Compare.j0, cell_Compare.j1, point_Compare.f, n3, n4, cmp_Compare_eq, Option.bind_some]
              simp [o]
end Go.Proofs.Ytfaojkajlpojlaa.Abs
