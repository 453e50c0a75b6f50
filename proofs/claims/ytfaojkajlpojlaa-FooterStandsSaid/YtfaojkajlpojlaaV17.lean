/- What functions of the program compute, each with the proof that it does (printed by wip/gen/all2.py). -/
import Derived.Test.YtfaojkajlpojlaaV16
import Derived.KernelRfl
namespace Go.Proofs.Ytfaojkajlpojlaa.Abs
open Go
set_option maxRecDepth 100000
mutual
def ref07_Compare.j1 : Nat → Cell → Option (Int)
  | 0, _ => none
  | k + 1, a1 => if a1.Null = true then (some (-1)) else (some 1)
def ref07_Compare.j2 : Nat → Int → Cell → Cell → Bool → Option (Int)
  | 0, _, _, _, _ => none
  | k + 1, a0, a1, a2, x3 => if x3 = true then ((ref07_ints.f a1.Int a2.Int).bind fun v1 => (some v1)) else (if (a0 == 2) = true then (if (Op.bytesLess a1.Text a2.Text) = true then (some (-1)) else (if (!(Op.bytesLess a1.Text a2.Text || a1.Text == a2.Text)) = true then (some 1) else (some 0))) else (if (a0 == 3) = true then ((ref06_Compare.f a1.At a2.At).bind fun v2 => (some v2)) else (some 0)))
def ref07_Compare.j0 : Nat → Int → Cell → Cell → Bool → Option (Int)
  | 0, _, _, _, _ => none
  | k + 1, a0, a1, a2, x2 => if x2 = true then (if a1.Null = true then (if a2.Null = true then (some 0) else (ref07_Compare.j1 k a1)) else (ref07_Compare.j1 k a1)) else (if (a0 == 0) = true then (ref07_Compare.j2 k a0 a1 a2 (a0 == 0)) else (ref07_Compare.j2 k a0 a1 a2 (a0 == 1)))
end
def ref07_Compare.f (k : Nat) (a0 : Int) (a1 : Cell) (a2 : Cell) : Option (Int) := if a1.Null = true then (ref07_Compare.j0 k a0 a1 a2 true) else (ref07_Compare.j0 k a0 a1 a2 a2.Null)
theorem ref07_Compare.mono_l : ∀ k, (∀ y0, LeO (ref07_Compare.j1 k y0) (ref07_Compare.j1 (k + 1) y0)) ∧ (∀ y0 y1 y2 y3, LeO (ref07_Compare.j2 k y0 y1 y2 y3) (ref07_Compare.j2 (k + 1) y0 y1 y2 y3)) ∧ (∀ y0 y1 y2 y3, LeO (ref07_Compare.j0 k y0 y1 y2 y3) (ref07_Compare.j0 (k + 1) y0 y1 y2 y3))
  | 0 => ⟨fun _ r h => (by simp only [ref07_Compare.j1] at h; cases h), fun _ _ _ _ r h => (by simp only [ref07_Compare.j2] at h; cases h), fun _ _ _ _ r h => (by simp only [ref07_Compare.j0] at h; cases h)⟩
  | k + 1 => by
    have ih := ref07_Compare.mono_l k
    refine ⟨?_, ?_, ?_⟩
    · intro y0
      rw [ref07_Compare.j1, ref07_Compare.j1]
      repeat' first
        | exact LeO.refl _
        | exact LeO.none _
        | exact ih.1 _
        | exact ih.2.1 _ _ _ _
        | exact ih.2.2 _ _ _ _
        | refine LeO.ite ?_ ?_
        | refine LeO.bind ?_ (fun _ => ?_)
    · intro y0 y1 y2 y3
      rw [ref07_Compare.j2, ref07_Compare.j2]
      repeat' first
        | exact LeO.refl _
        | exact LeO.none _
        | exact ih.1 _
        | exact ih.2.1 _ _ _ _
        | exact ih.2.2 _ _ _ _
        | refine LeO.ite ?_ ?_
        | refine LeO.bind ?_ (fun _ => ?_)
    · intro y0 y1 y2 y3
      rw [ref07_Compare.j0, ref07_Compare.j0]
      repeat' first
        | exact LeO.refl _
        | exact LeO.none _
        | exact ih.1 _
        | exact ih.2.1 _ _ _ _
        | exact ih.2.2 _ _ _ _
        | refine LeO.ite ?_ ?_
        | refine LeO.bind ?_ (fun _ => ?_)
theorem ref07_Compare.mono (k : Nat) (a0 : Int) (a1 : Cell) (a2 : Cell) : LeO (ref07_Compare.f k a0 a1 a2) (ref07_Compare.f (k + 1) a0 a1 a2) := by
  unfold ref07_Compare.f
  repeat' first
    | exact LeO.refl _
    | exact LeO.none _
    | exact (ref07_Compare.mono_l k).1 _
    | exact (ref07_Compare.mono_l k).2.1 _ _ _ _
    | exact (ref07_Compare.mono_l k).2.2 _ _ _ _
    | refine LeO.ite ?_ ?_
    | refine LeO.bind ?_ (fun _ => ?_)
theorem ref07_Compare.ok (k : Nat) (a0 : Int) (a1 : Cell) (a2 : Cell) (S : Store) (r : Int) (h : ref07_Compare.f k a0 a1 a2 = some r) : ACalls Try.prog 51 [i64 a0, .ag (Cell.enc a1), .ag (Cell.enc a2)] S (fun r_ S_ => r_ = i64 r ∧ Own S [] S_ []) := by
  unfold ref07_Compare.f at h
  refine acalls_of Try.func51 rfl ?_
  have hh := Own.nil (S := S)
  refine AT_forget 0x7 (mkS 49 [(0, i64 a0), (1, .ag (Cell.enc a1)), (2, .ag (Cell.enc a2))]) (by kernel_rfl) ?_
  refine zsr ?_
  refine AOps_box_im (ds := (Cell.enc a1)) (tl_get rfl) rfl rfl (by kernel_rfl) ?_
  refine fg [0, 2, 4] ?_
  refine AOps_box_im (ds := (Cell.enc a2)) (tl_get rfl) rfl rfl (by kernel_rfl) ?_
  refine fg [0, 4, 5] ?_
  refine seg 1 [0, 4, 5] [] [] (by kernel_rfl) (by kernel_rfl) ?_
  refine zn ?_
  refine AT_seq ?_
  refine AT_cutM 0x1031 (fun sl_ S_ => ∃ (k_ : Nat), k_ ≤ k ∧ ∃ (x2 : Bool), LeL sl_ (mkS 49 [(0, i64 a0), (4, .pt (Cell.enc a1)), (5, .pt (Cell.enc a2)), (12, bo x2)]) ∧ ref07_Compare.j0 k_ a0 a1 a2 x2 = some r ∧ Own S [] S_ []) ?_ ?_
  · refine AT_region ?_
    refine seg 3 [0, 4, 5, 9] [(9, bo a1.Null)] [3, 4, 5] (by kernel_rfl) (by kernel_rfl) ?_
    refine cased 9 a1.Null (by kernel_rfl) (fun hc10 => ?_) (fun hc10 => ?_)
    · rw [if_t hc10] at h
      refine seg 3 [0, 4, 5, 12] [(12, bo true)] [] (by kernel_rfl) (by kernel_rfl) ?_
      refine zn ?_
      exact ⟨k, (by omega), true, (le_rf (by kernel_rfl)), h, hh⟩
    rw [if_f hc10] at h
    refine seg 3 [0, 4, 5, 12] [(12, bo a2.Null)] [] (by kernel_rfl) (by kernel_rfl) ?_
    refine zn ?_
    exact ⟨k, (by omega), a2.Null, (le_rf (by kernel_rfl)), h, hh⟩
  clear h hh
  rintro sl_ S_ ⟨k', hk_, x2, hl_, h, hh⟩
  refine AT_weaken hl_ ?_
  obtain _ | k3 := k'
  · cases h
  rw [ref07_Compare.j0] at h
  refine AT_condS x2 (by kernel_rfl) (fun hc11 => ?_) (fun hc11 => ?_)
  · rw [if_t hc11] at h
    refine AT_cutM 0x10 (fun sl_ S_ => ∃ (k_ : Nat), k_ ≤ k3 ∧ LeL sl_ (mkS 49 [(4, .pt (Cell.enc a1))]) ∧ ref07_Compare.j1 k_ a1 = some r ∧ Own S [] S_ []) ?_ ?_
    · refine AT_seq ?_
      refine AT_region ?_
      refine seg 3 [4, 5, 15] [(15, bo a1.Null)] [3, 4, 5] (by kernel_rfl) (by kernel_rfl) ?_
      refine casedR 15 a1.Null (by kernel_rfl) (fun hc14 => ?_) (fun hc14 => ?_)
      · rw [if_f hc14] at h
        refine seg 3 [4, 18] [(18, bo false)] [] (by kernel_rfl) (by kernel_rfl) ?_
        refine zn ?_
        refine AT_cond_f (by kernel_rfl) ?_
        refine zkn ?_
        exact ⟨k3, (by omega), (le_rf (by kernel_rfl)), h, hh⟩
      rw [if_t hc14] at h
      refine seg 3 [4, 18] [(18, bo a2.Null)] [] (by kernel_rfl) (by kernel_rfl) ?_
      refine zn ?_
      refine AT_condR a2.Null (by kernel_rfl) (fun hc15 => ?_) (fun hc15 => ?_)
      · rw [if_f hc15] at h
        refine zkn ?_
        exact ⟨k3, (by omega), (le_rf (by kernel_rfl)), h, hh⟩
      rw [if_t hc15] at h
      refine zsr ?_
      refine seg 1 [6] [(6, i64 0)] [] (by kernel_rfl) (by kernel_rfl) ?_
      refine zn ?_
      refine AT_ret ?_
      refine athen_r ?_
      refine athen_r ?_
      have e_ := Option.some.inj h
      subst e_
      exact ⟨[i64 0], _, S_, (.of (by kernel_rfl)), D.le.refl _, Store.le.refl _, rfl, hh⟩
    clear h hh
    rintro sl_ S_ ⟨k', hk_, hl_, h, hh⟩
    refine AT_weaken hl_ ?_
    obtain _ | k4 := k'
    · cases h
    rw [ref07_Compare.j1] at h
    refine AT_seq ?_
    refine zsr ?_
    refine seg 2 [20] [(20, bo a1.Null)] [] (by kernel_rfl) (by kernel_rfl) ?_
    refine zn ?_
    refine AT_condS a1.Null (by kernel_rfl) (fun hc16 => ?_) (fun hc16 => ?_)
    · rw [if_t hc16] at h
      refine zsr ?_
      refine seg 1 [6] [(6, i64 (-1))] [] (by kernel_rfl) (by kernel_rfl) ?_
      refine zn ?_
      refine AT_ret ?_
      refine athen_r ?_
      refine athen_r ?_
      have e_ := Option.some.inj h
      subst e_
      exact ⟨[i64 (-1)], _, S_, (.of (by kernel_rfl)), D.le.refl _, Store.le.refl _, rfl, hh⟩
    rw [if_f hc16] at h
    refine zkn ?_
    refine zsr ?_
    refine seg 1 [6] [(6, i64 1)] [] (by kernel_rfl) (by kernel_rfl) ?_
    refine zn ?_
    refine AT_ret ?_
    refine athen_r ?_
    have e_ := Option.some.inj h
    subst e_
    exact ⟨[i64 1], _, S_, (.of (by kernel_rfl)), D.le.refl _, Store.le.refl _, rfl, hh⟩
  rw [if_f hc11] at h
  refine zkn ?_
  refine AT_seq ?_
  refine zsr ?_
  refine seg 1 [4, 5, 21] [(21, i64 a0)] [] (by kernel_rfl) (by kernel_rfl) ?_
  refine zn ?_
  refine AT_block ?_
  refine AT_cutM 0x600030 (fun sl_ S_ => ∃ (k_ : Nat), k_ ≤ k3 ∧ ∃ (x3 : Bool), LeL sl_ (mkS 49 [(4, .pt (Cell.enc a1)), (5, .pt (Cell.enc a2)), (21, i64 a0), (22, bo x3)]) ∧ ref07_Compare.j2 k_ a0 a1 a2 x3 = some r ∧ Own S [] S_ []) ?_ ?_
  · refine AT_seq ?_
    refine AT_region ?_
    refine seg 2 [4, 5, 21, 22] [(22, bo (a0 == 0))] [] (by kernel_rfl) (by kernel_rfl) ?_
    refine zn ?_
    refine AT_condS (a0 == 0) (by kernel_rfl) (fun hc18 => ?_) (fun hc18 => ?_)
    · rw [if_t hc18] at h
      refine zkn ?_
      exact ⟨k3, (by omega), a0 == 0, (le_rf (by kernel_rfl)), h, hh⟩
    rw [if_f hc18] at h
    refine AT_region ?_
    refine seg 2 [4, 5, 21, 22] [(22, bo (a0 == 1))] [] (by kernel_rfl) (by kernel_rfl) ?_
    refine zn ?_
    exact ⟨k3, (by omega), a0 == 1, (le_rf (by kernel_rfl)), h, hh⟩
  clear h hh
  rintro sl_ S_ ⟨k', hk_, x3, hl_, h, hh⟩
  refine AT_weaken hl_ ?_
  obtain _ | k5 := k'
  · cases h
  rw [ref07_Compare.j2] at h
  refine AT_condS x3 (by kernel_rfl) (fun hc19 => ?_) (fun hc19 => ?_)
  · rw [if_t hc19] at h
    refine zsr ?_
    refine seg 4 [26, 28] [(26, i64 a1.Int), (28, i64 a2.Int)] [4, 5] (by kernel_rfl) (by kernel_rfl) ?_
    obtain ⟨v1, ht1, h⟩ := bs h
    refine AOps_callR _ [i64 a1.Int, i64 a2.Int] (tl_get rfl) rfl rfl rfl rfl Try.func67 (by decide) rfl ((.cons (D.le.refl _) (.cons (D.le.refl _) (.nil)))) (ref07_ints.ok a1.Int a2.Int _  _ ht1) ?_
    rintro _ S_ ⟨rfl, h2_⟩
    replace hh := hh.call0 h2_
    refine fg [29] ?_
    refine seg 1 [6] [(6, i64 v1)] [] (by kernel_rfl) (by kernel_rfl) ?_
    refine zn ?_
    refine AT_ret ?_
    refine ablock_r ?_
    refine athen_r ?_
    have e_ := Option.some.inj h
    subst e_
    exact ⟨[i64 v1], _, S_, (.of (by kernel_rfl)), D.le.refl _, Store.le.refl _, rfl, hh⟩
  rw [if_f hc19] at h
  refine zsr ?_
  refine seg 2 [4, 5, 21, 30] [(30, bo (a0 == 2))] [] (by kernel_rfl) (by kernel_rfl) ?_
  refine zn ?_
  refine AT_condR (a0 == 2) (by kernel_rfl) (fun hc20 => ?_) (fun hc20 => ?_)
  · rw [if_f hc20] at h
    refine zsr ?_
    refine seg 2 [4, 5, 42] [(42, bo (a0 == 3))] [] (by kernel_rfl) (by kernel_rfl) ?_
    refine zn ?_
    refine AT_condR (a0 == 3) (by kernel_rfl) (fun hc23 => ?_) (fun hc23 => ?_)
    · rw [if_f hc23] at h
      refine AT_skip ?_
      refine ablock_n ?_
      refine athen_n ?_
      refine zsr ?_
      refine seg 1 [6] [(6, i64 0)] [] (by kernel_rfl) (by kernel_rfl) ?_
      refine zn ?_
      refine AT_ret ?_
      have e_ := Option.some.inj h
      subst e_
      exact ⟨[i64 0], _, S_, (.of (by kernel_rfl)), D.le.refl _, Store.le.refl _, rfl, hh⟩
    rw [if_t hc23] at h
    refine zsr ?_
    refine seg 4 [45, 47] [(45, .ag (Point.enc a1.At)), (47, .ag (Point.enc a2.At))] [4, 5] (by kernel_rfl) (by kernel_rfl) ?_
    obtain ⟨v2, ht2, h⟩ := bs h
    refine AOps_callR _ [.ag (Point.enc a1.At), .ag (Point.enc a2.At)] (tl_get rfl) rfl rfl rfl rfl Try.func68 (by decide) rfl ((.cons (D.le.refl _) (.cons (D.le.refl _) (.nil)))) (ref06_Compare.ok a1.At a2.At _  _ ht2) ?_
    rintro _ S_ ⟨rfl, h2_⟩
    replace hh := hh.call0 h2_
    refine fg [48] ?_
    refine seg 1 [6] [(6, i64 v2)] [] (by kernel_rfl) (by kernel_rfl) ?_
    refine zn ?_
    refine AT_ret ?_
    refine ablock_r ?_
    refine athen_r ?_
    have e_ := Option.some.inj h
    subst e_
    exact ⟨[i64 v2], _, S_, (.of (by kernel_rfl)), D.le.refl _, Store.le.refl _, rfl, hh⟩
  rw [if_t hc20] at h
  refine AT_seq ?_
  refine zsr ?_
  refine seg 5 [4, 5, 36] [(36, bo (Op.bytesLess a1.Text a2.Text))] [] (by kernel_rfl) (by kernel_rfl) ?_
  refine zn ?_
  refine AT_condS (Op.bytesLess a1.Text a2.Text) (by kernel_rfl) (fun hc21 => ?_) (fun hc21 => ?_)
  · rw [if_t hc21] at h
    refine zsr ?_
    refine seg 1 [6] [(6, i64 (-1))] [] (by kernel_rfl) (by kernel_rfl) ?_
    refine zn ?_
    refine AT_ret ?_
    refine athen_r ?_
    refine ablock_r ?_
    refine athen_r ?_
    have e_ := Option.some.inj h
    subst e_
    exact ⟨[i64 (-1)], _, S_, (.of (by kernel_rfl)), D.le.refl _, Store.le.refl _, rfl, hh⟩
  rw [if_f hc21] at h
  refine zkn ?_
  refine zsr ?_
  refine seg 5 [41] [(41, bo (!(Op.bytesLess a1.Text a2.Text || a1.Text == a2.Text)))] [] (by kernel_rfl) (by kernel_rfl) ?_
  refine zn ?_
  refine AT_condS (!(Op.bytesLess a1.Text a2.Text || a1.Text == a2.Text)) (by kernel_rfl) (fun hc22 => ?_) (fun hc22 => ?_)
  · rw [if_t hc22] at h
    refine zsr ?_
    refine seg 1 [6] [(6, i64 1)] [] (by kernel_rfl) (by kernel_rfl) ?_
    refine zn ?_
    refine AT_ret ?_
    refine ablock_r ?_
    refine athen_r ?_
    have e_ := Option.some.inj h
    subst e_
    exact ⟨[i64 1], _, S_, (.of (by kernel_rfl)), D.le.refl _, Store.le.refl _, rfl, hh⟩
  rw [if_f hc22] at h
  refine AT_skip ?_
  refine ablock_n ?_
  refine athen_n ?_
  refine zsr ?_
  refine seg 1 [6] [(6, i64 0)] [] (by kernel_rfl) (by kernel_rfl) ?_
  refine zn ?_
  refine AT_ret ?_
  have e_ := Option.some.inj h
  subst e_
  exact ⟨[i64 0], _, S_, (.of (by kernel_rfl)), D.le.refl _, Store.le.refl _, rfl, hh⟩
def ref15_Right.f (k : Nat) (a0 : Int) (a1 : Stat) : Option (Bool) := if (decide (a0 < 0)) = true then (some false) else (if (decide (a0 > 3)) = true then (some false) else (if (decide (a1.Nulls < 0)) = true then (some false) else (if (decide (a1.Nulls > 65536)) = true then (some false) else (if (!a1.Has) = true then (if ((a1.Min.Null == false) && ((a1.Min.Int == 0) && ((a1.Min.Text == []) && (((a1.Min.At.X == 0) && ((a1.Min.At.Y == 0) && true)) && true)))) = true then (some ((a1.Max.Null == false) && ((a1.Max.Int == 0) && ((a1.Max.Text == []) && (((a1.Max.At.X == 0) && ((a1.Max.At.Y == 0) && true)) && true))))) else (some false)) else ((ref07_Right.f a1.Min (⟨[], a0, false⟩ : Col)).bind fun v1 => ((ref07_Right.f a1.Max (⟨[], a0, false⟩ : Col)).bind fun v2 => (if v1 = true then (if v2 = true then ((ref07_Compare.f k a0 a1.Min a1.Max).bind fun v3 => (some (decide (v3 ≤ 0)))) else (some false)) else (some false))))))))
theorem ref15_Right.mono (k : Nat) (a0 : Int) (a1 : Stat) : LeO (ref15_Right.f k a0 a1) (ref15_Right.f (k + 1) a0 a1) := by
  unfold ref15_Right.f
  repeat' first
    | exact LeO.refl _
    | exact LeO.none _
    | exact ref07_Compare.mono _ _ _ _
    | refine LeO.ite ?_ ?_
    | refine LeO.bind ?_ (fun _ => ?_)
theorem ref15_Right.ok (k : Nat) (a0 : Int) (a1 : Stat) (S : Store) (r : Bool) (h : ref15_Right.f k a0 a1 = some r) : ACalls Try.prog 40 [i64 a0, .ag (Stat.enc a1)] S (fun r_ S_ => r_ = bo r ∧ Own S [] S_ []) := by
  unfold ref15_Right.f at h
  refine acalls_of Try.func40 rfl ?_
  have hh := Own.nil (S := S)
  refine AT_forget 0x3 (mkS 59 [(0, i64 a0), (1, .ag (Stat.enc a1))]) (by kernel_rfl) ?_
  refine zsr ?_
  refine AOps_box_im (ds := (Stat.enc a1)) (tl_get rfl) rfl rfl (by kernel_rfl) ?_
  refine fg [0, 3] ?_
  refine seg 1 [0, 3] [] [] (by kernel_rfl) (by kernel_rfl) ?_
  refine zn ?_
  refine AT_seq ?_
  refine zsr ?_
  refine seg 3 [0, 3, 9] [(9, bo (decide (a0 < 0)))] [3, 4, 5, 6, 7, 8, 9, 10, 11, 12, 13, 14, 15] (by kernel_rfl) (by kernel_rfl) ?_
  refine cased 9 (decide (a0 < 0)) (by kernel_rfl) (fun hc5 => ?_) (fun hc5 => ?_)
  · rw [if_t hc5] at h
    refine seg 13 [0, 3, 22] [(22, bo true)] [] (by kernel_rfl) (by kernel_rfl) ?_
    refine zn ?_
    refine AT_cond_t (by kernel_rfl) ?_
    refine zsr ?_
    refine seg 1 [4] [(4, bo false)] [] (by kernel_rfl) (by kernel_rfl) ?_
    refine zn ?_
    refine AT_ret ?_
    refine athen_r ?_
    have e_ := Option.some.inj h
    subst e_
    exact ⟨[bo false], _, S, (.of (by kernel_rfl)), D.le.refl _, Store.le.refl _, rfl, hh⟩
  rw [if_f hc5] at h
  refine seg 4 [0, 3, 13] [(13, bo (decide (a0 > 3)))] [7, 8, 9, 10, 11, 12, 13, 14, 15] (by kernel_rfl) (by kernel_rfl) ?_
  refine cased 13 (decide (a0 > 3)) (by kernel_rfl) (fun hc6 => ?_) (fun hc6 => ?_)
  · rw [if_t hc6] at h
    refine seg 9 [0, 3, 22] [(22, bo true)] [] (by kernel_rfl) (by kernel_rfl) ?_
    refine zn ?_
    refine AT_cond_t (by kernel_rfl) ?_
    refine zsr ?_
    refine seg 1 [4] [(4, bo false)] [] (by kernel_rfl) (by kernel_rfl) ?_
    refine zn ?_
    refine AT_ret ?_
    refine athen_r ?_
    have e_ := Option.some.inj h
    subst e_
    exact ⟨[bo false], _, S, (.of (by kernel_rfl)), D.le.refl _, Store.le.refl _, rfl, hh⟩
  rw [if_f hc6] at h
  refine seg 5 [0, 3, 18] [(18, bo (decide (a1.Nulls < 0)))] [12, 13, 14, 15] (by kernel_rfl) (by kernel_rfl) ?_
  refine cased 18 (decide (a1.Nulls < 0)) (by kernel_rfl) (fun hc7 => ?_) (fun hc7 => ?_)
  · rw [if_t hc7] at h
    refine seg 4 [0, 3, 22] [(22, bo true)] [] (by kernel_rfl) (by kernel_rfl) ?_
    refine zn ?_
    refine AT_cond_t (by kernel_rfl) ?_
    refine zsr ?_
    refine seg 1 [4] [(4, bo false)] [] (by kernel_rfl) (by kernel_rfl) ?_
    refine zn ?_
    refine AT_ret ?_
    refine athen_r ?_
    have e_ := Option.some.inj h
    subst e_
    exact ⟨[bo false], _, S, (.of (by kernel_rfl)), D.le.refl _, Store.le.refl _, rfl, hh⟩
  rw [if_f hc7] at h
  refine seg 4 [0, 3, 22] [(22, bo (decide (a1.Nulls > 65536)))] [] (by kernel_rfl) (by kernel_rfl) ?_
  refine zn ?_
  refine AT_condS (decide (a1.Nulls > 65536)) (by kernel_rfl) (fun hc8 => ?_) (fun hc8 => ?_)
  · rw [if_t hc8] at h
    refine zsr ?_
    refine seg 1 [4] [(4, bo false)] [] (by kernel_rfl) (by kernel_rfl) ?_
    refine zn ?_
    refine AT_ret ?_
    refine athen_r ?_
    have e_ := Option.some.inj h
    subst e_
    exact ⟨[bo false], _, S, (.of (by kernel_rfl)), D.le.refl _, Store.le.refl _, rfl, hh⟩
  rw [if_f hc8] at h
  refine zkn ?_
  refine AT_seq ?_
  refine zsr ?_
  refine seg 3 [0, 3, 25] [(25, bo (!a1.Has))] [] (by kernel_rfl) (by kernel_rfl) ?_
  refine zn ?_
  refine AT_condS (!a1.Has) (by kernel_rfl) (fun hc9 => ?_) (fun hc9 => ?_)
  · rw [if_t hc9] at h
    refine zsr ?_
    refine seg 5 [3, 30] [(30, bo ((a1.Min.Null == false) && ((a1.Min.Int == 0) && ((a1.Min.Text == []) && (((a1.Min.At.X == 0) && ((a1.Min.At.Y == 0) && true)) && true)))))] [5, 6, 7, 8, 9, 10] (by kernel_rfl) (by kernel_rfl) ?_
    refine cased 30 ((a1.Min.Null == false) && ((a1.Min.Int == 0) && ((a1.Min.Text == []) && (((a1.Min.At.X == 0) && ((a1.Min.At.Y == 0) && true)) && true)))) (by kernel_rfl) (fun hc10 => ?_) (fun hc10 => ?_)
    · rw [if_t hc10] at h
      refine AOps_seg 6 0x10 (mkS 59 [(4, bo ((a1.Max.Null == false) && ((a1.Max.Int == 0) && ((a1.Max.Text == []) && (((a1.Max.At.X == 0) && ((a1.Max.At.Y == 0) && true)) && true)))))]) none [] (by kernel_rfl) (by kernel_rfl) trivial ?_
      refine zn ?_
      refine AT_ret ?_
      refine athen_r ?_
      have e_ := Option.some.inj h
      subst e_
      exact ⟨[bo ((a1.Max.Null == false) && ((a1.Max.Int == 0) && ((a1.Max.Text == []) && (((a1.Max.At.X == 0) && ((a1.Max.At.Y == 0) && true)) && true))))], _, S, (.of (by kernel_rfl)), D.le.refl _, Store.le.refl _, rfl, hh⟩
    rw [if_f hc10] at h
    refine AOps_seg 6 0x10 (mkS 59 [(4, bo false)]) none [] (by kernel_rfl) (by kernel_rfl) trivial ?_
    refine zn ?_
    refine AT_ret ?_
    refine athen_r ?_
    have e_ := Option.some.inj h
    subst e_
    exact ⟨[bo false], _, S, (.of (by kernel_rfl)), D.le.refl _, Store.le.refl _, rfl, hh⟩
  rw [if_f hc9] at h
  refine zkn ?_
  refine zsr ?_
  refine seg 4 [0, 3, 37, 39] [(37, .ag (Cell.enc a1.Min)), (39, .ag [str [], i64 a0, bo false])] [4, 5] (by kernel_rfl) (by kernel_rfl) ?_
  obtain ⟨v1, ht1, h⟩ := bs h
  refine AOps_callR _ [.ag (Cell.enc a1.Min), .ag (Col.enc (⟨[], a0, false⟩ : Col))] (tl_get rfl) rfl rfl rfl rfl Try.func50 (by decide) rfl ((.cons (D.le.refl _) (.cons (D.le.refl _) (.nil)))) (ref07_Right.ok a1.Min (⟨[], a0, false⟩ : Col) _  _ ht1) ?_
  rintro _ S_ ⟨rfl, h2_⟩
  replace hh := hh.call0 h2_
  refine AOps_forget 0x10000000009 (mkS 59 [(0, i64 a0), (3, .pt (Stat.enc a1)), (40, bo v1)]) (by kernel_rfl) ?_
  refine seg 1 [0, 3, 5] [(5, bo v1)] [] (by kernel_rfl) (by kernel_rfl) ?_
  refine znsr ?_
  refine seg 4 [0, 3, 5, 42, 44] [(42, .ag (Cell.enc a1.Max)), (44, .ag [str [], i64 a0, bo false])] [4, 5] (by kernel_rfl) (by kernel_rfl) ?_
  obtain ⟨v2, ht2, h⟩ := bs h
  refine AOps_callR _ [.ag (Cell.enc a1.Max), .ag (Col.enc (⟨[], a0, false⟩ : Col))] (tl_get rfl) rfl rfl rfl rfl Try.func50 (by decide) rfl ((.cons (D.le.refl _) (.cons (D.le.refl _) (.nil)))) (ref07_Right.ok a1.Max (⟨[], a0, false⟩ : Col) _  _ ht2) ?_
  rintro _ S_ ⟨rfl, h2_⟩
  replace hh := hh.call0 h2_
  refine fg [0, 3, 5, 45] ?_
  refine seg 1 [0, 3, 5, 6] [(6, bo v2)] [] (by kernel_rfl) (by kernel_rfl) ?_
  refine znsr ?_
  refine seg 2 [0, 3, 6, 47] [(47, bo v1)] [2, 3, 4, 5, 6, 7, 8, 9, 10, 11, 12, 13] (by kernel_rfl) (by kernel_rfl) ?_
  refine casedR 47 v1 (by kernel_rfl) (fun hc11 => ?_) (fun hc11 => ?_)
  · rw [if_f hc11] at h
    refine seg 12 [4] [(4, bo false)] [] (by kernel_rfl) (by kernel_rfl) ?_
    refine zn ?_
    refine AT_ret ?_
    have e_ := Option.some.inj h
    subst e_
    exact ⟨[bo false], _, S_, (.of (by kernel_rfl)), D.le.refl _, Store.le.refl _, rfl, hh⟩
  rw [if_t hc11] at h
  refine seg 3 [0, 3, 50] [(50, bo v2)] [5, 6, 7, 8, 9, 10, 11, 12, 13] (by kernel_rfl) (by kernel_rfl) ?_
  refine casedR 50 v2 (by kernel_rfl) (fun hc12 => ?_) (fun hc12 => ?_)
  · rw [if_f hc12] at h
    refine seg 9 [4] [(4, bo false)] [] (by kernel_rfl) (by kernel_rfl) ?_
    refine zn ?_
    refine AT_ret ?_
    have e_ := Option.some.inj h
    subst e_
    exact ⟨[bo false], _, S_, (.of (by kernel_rfl)), D.le.refl _, Store.le.refl _, rfl, hh⟩
  rw [if_t hc12] at h
  refine seg 5 [50, 51, 53, 55] [(51, i64 a0), (53, .ag (Cell.enc a1.Min)), (55, .ag (Cell.enc a1.Max))] [10, 11, 12, 13] (by kernel_rfl) (by kernel_rfl) ?_
  obtain ⟨v3, ht3, h⟩ := bs h
  refine AOps_callR _ [i64 a0, .ag (Cell.enc a1.Min), .ag (Cell.enc a1.Max)] (tl_get rfl) rfl rfl rfl rfl Try.func51 (by decide) rfl ((.cons (D.le.refl _) (.cons (D.le.refl _) (.cons (D.le.refl _) (.nil))))) (ref07_Compare.ok _ a0 a1.Min a1.Max _  _ ht3) ?_
  rintro _ S_ ⟨rfl, h2_⟩
  replace hh := hh.call0 h2_
  refine fg [50, 56] ?_
  refine AOps_seg 3 0x10 (mkS 59 [(4, bo (decide (v3 ≤ 0)))]) none [] (by kernel_rfl) (by kernel_rfl) trivial ?_
  refine zn ?_
  refine AT_ret ?_
  have e_ := Option.some.inj h
  subst e_
  exact ⟨[bo (decide (v3 ≤ 0))], _, S_, (.of (by kernel_rfl)), D.le.refl _, Store.le.refl _, rfl, hh⟩
def ref19_pageRight.f (k : Nat) (a0 : Col) (a1 : PageInfo) : Option (Bool) := (ref15_Right.f k a0.Type_ a1.Stat).bind fun v1 => (if v1 = true then (if (decide (a1.Rows ≥ 1)) = true then (if (decide (a1.Rows ≤ 65536)) = true then (if (decide (a1.Size ≥ 1)) = true then (if (decide (a1.Size ≤ 268435456)) = true then (if (decide (a1.Stat.Nulls ≤ a1.Rows)) = true then (if (a1.Stat.Has == (decide (a1.Stat.Nulls < a1.Rows))) = true then (if a0.Nullable = true then (some true) else (some (a1.Stat.Nulls == 0))) else (some false)) else (some false)) else (some false)) else (some false)) else (some false)) else (some false)) else (some false))
theorem ref19_pageRight.mono (k : Nat) (a0 : Col) (a1 : PageInfo) : LeO (ref19_pageRight.f k a0 a1) (ref19_pageRight.f (k + 1) a0 a1) := by
  unfold ref19_pageRight.f
  repeat' first
    | exact LeO.refl _
    | exact LeO.none _
    | exact ref15_Right.mono _ _ _
    | refine LeO.ite ?_ ?_
    | refine LeO.bind ?_ (fun _ => ?_)
theorem ref19_pageRight.ok (k : Nat) (a0 : Col) (a1 : PageInfo) (S : Store) (r : Bool) (h : ref19_pageRight.f k a0 a1 = some r) : ACalls Try.prog 28 [.ag (Col.enc a0), .ag (PageInfo.enc a1)] S (fun r_ S_ => r_ = bo r ∧ Own S [] S_ []) := by
  unfold ref19_pageRight.f at h
  refine acalls_of Try.func28 rfl ?_
  have hh := Own.nil (S := S)
  refine AT_forget 0x3 (mkS 62 [(0, .ag (Col.enc a0)), (1, .ag (PageInfo.enc a1))]) (by kernel_rfl) ?_
  refine zsr ?_
  refine AOps_box_im (ds := (Col.enc a0)) (tl_get rfl) rfl rfl (by kernel_rfl) ?_
  refine fg [1, 2] ?_
  refine AOps_box_im (ds := (PageInfo.enc a1)) (tl_get rfl) rfl rfl (by kernel_rfl) ?_
  refine fg [2, 3] ?_
  refine seg 1 [2, 3] [] [] (by kernel_rfl) (by kernel_rfl) ?_
  refine znsr ?_
  refine seg 4 [2, 3, 7, 9] [(7, i64 a0.Type_), (9, .ag (Stat.enc a1.Stat))] [4, 5] (by kernel_rfl) (by kernel_rfl) ?_
  obtain ⟨v1, ht1, h⟩ := bs h
  refine AOps_callR _ [i64 a0.Type_, .ag (Stat.enc a1.Stat)] (tl_get rfl) rfl rfl rfl rfl Try.func40 (by decide) rfl ((.cons (D.le.refl _) (.cons (D.le.refl _) (.nil)))) (ref15_Right.ok _ a0.Type_ a1.Stat _  _ ht1) ?_
  rintro _ S_ ⟨rfl, h2_⟩
  replace hh := hh.call0 h2_
  refine fg [2, 3, 10] ?_
  refine seg 1 [2, 3, 5] [(5, bo v1)] [] (by kernel_rfl) (by kernel_rfl) ?_
  refine znsr ?_
  refine seg 2 [2, 3, 12] [(12, bo v1)] [2, 3, 4, 5, 6, 7, 8, 9, 10, 11, 12, 13, 14, 15, 16, 17, 18, 19, 20, 21, 22, 23, 24, 25, 26, 27, 28, 29, 30, 31, 32, 33, 34, 35, 36, 37, 38, 39, 40, 41, 42, 43, 44, 45, 46, 47, 48, 49, 50, 51] (by kernel_rfl) (by kernel_rfl) ?_
  refine casedR 12 v1 (by kernel_rfl) (fun hc1 => ?_) (fun hc1 => ?_)
  · rw [if_f hc1] at h
    refine seg 50 [4] [(4, bo false)] [] (by kernel_rfl) (by kernel_rfl) ?_
    refine zn ?_
    refine AT_ret ?_
    have e_ := Option.some.inj h
    subst e_
    exact ⟨[bo false], _, S_, (.of (by kernel_rfl)), D.le.refl _, Store.le.refl _, rfl, hh⟩
  rw [if_t hc1] at h
  refine seg 5 [2, 3, 17] [(17, bo (decide (a1.Rows ≥ 1)))] [7, 8, 9, 10, 11, 12, 13, 14, 15, 16, 17, 18, 19, 20, 21, 22, 23, 24, 25, 26, 27, 28, 29, 30, 31, 32, 33, 34, 35, 36, 37, 38, 39, 40, 41, 42, 43, 44, 45, 46, 47, 48, 49, 50, 51] (by kernel_rfl) (by kernel_rfl) ?_
  refine casedR 17 (decide (a1.Rows ≥ 1)) (by kernel_rfl) (fun hc2 => ?_) (fun hc2 => ?_)
  · rw [if_f hc2] at h
    refine AOps_seg 45 0x10 (mkS 62 [(4, bo false)]) none [] (by kernel_rfl) (by kernel_rfl) trivial ?_
    refine zn ?_
    refine AT_ret ?_
    have e_ := Option.some.inj h
    subst e_
    exact ⟨[bo false], _, S_, (.of (by kernel_rfl)), D.le.refl _, Store.le.refl _, rfl, hh⟩
  rw [if_t hc2] at h
  refine AOps_seg 5 0x40000c (mkS 62 [(2, .pt (Col.enc a0)), (3, .pt (PageInfo.enc a1)), (22, bo (decide (a1.Rows ≤ 65536)))]) none [12, 13, 14, 15, 16, 17, 18, 19, 20, 21, 22, 23, 24, 25, 26, 27, 28, 29, 30, 31, 32, 33, 34, 35, 36, 37, 38, 39, 40, 41, 42, 43, 44, 45, 46, 47, 48, 49, 50, 51] (by kernel_rfl) (by kernel_rfl) trivial ?_
  refine casedR 22 (decide (a1.Rows ≤ 65536)) (by kernel_rfl) (fun hc3 => ?_) (fun hc3 => ?_)
  · rw [if_f hc3] at h
    refine seg 40 [4] [(4, bo false)] [] (by kernel_rfl) (by kernel_rfl) ?_
    refine zn ?_
    refine AT_ret ?_
    have e_ := Option.some.inj h
    subst e_
    exact ⟨[bo false], _, S_, (.of (by kernel_rfl)), D.le.refl _, Store.le.refl _, rfl, hh⟩
  rw [if_t hc3] at h
  refine seg 5 [2, 3, 27] [(27, bo (decide (a1.Size ≥ 1)))] [17, 18, 19, 20, 21, 22, 23, 24, 25, 26, 27, 28, 29, 30, 31, 32, 33, 34, 35, 36, 37, 38, 39, 40, 41, 42, 43, 44, 45, 46, 47, 48, 49, 50, 51] (by kernel_rfl) (by kernel_rfl) ?_
  refine casedR 27 (decide (a1.Size ≥ 1)) (by kernel_rfl) (fun hc4 => ?_) (fun hc4 => ?_)
  · rw [if_f hc4] at h
    refine seg 35 [4] [(4, bo false)] [] (by kernel_rfl) (by kernel_rfl) ?_
    refine zn ?_
    refine AT_ret ?_
    have e_ := Option.some.inj h
    subst e_
    exact ⟨[bo false], _, S_, (.of (by kernel_rfl)), D.le.refl _, Store.le.refl _, rfl, hh⟩
  rw [if_t hc4] at h
  refine seg 5 [2, 3, 32] [(32, bo (decide (a1.Size ≤ 268435456)))] [22, 23, 24, 25, 26, 27, 28, 29, 30, 31, 32, 33, 34, 35, 36, 37, 38, 39, 40, 41, 42, 43, 44, 45, 46, 47, 48, 49, 50, 51] (by kernel_rfl) (by kernel_rfl) ?_
  refine casedR 32 (decide (a1.Size ≤ 268435456)) (by kernel_rfl) (fun hc5 => ?_) (fun hc5 => ?_)
  · rw [if_f hc5] at h
    refine seg 30 [4] [(4, bo false)] [] (by kernel_rfl) (by kernel_rfl) ?_
    refine zn ?_
    refine AT_ret ?_
    have e_ := Option.some.inj h
    subst e_
    exact ⟨[bo false], _, S_, (.of (by kernel_rfl)), D.le.refl _, Store.le.refl _, rfl, hh⟩
  rw [if_t hc5] at h
  refine seg 8 [2, 3, 40] [(40, bo (decide (a1.Stat.Nulls ≤ a1.Rows)))] [30, 31, 32, 33, 34, 35, 36, 37, 38, 39, 40, 41, 42, 43, 44, 45, 46, 47, 48, 49, 50, 51] (by kernel_rfl) (by kernel_rfl) ?_
  refine casedR 40 (decide (a1.Stat.Nulls ≤ a1.Rows)) (by kernel_rfl) (fun hc6 => ?_) (fun hc6 => ?_)
  · rw [if_f hc6] at h
    refine seg 22 [4] [(4, bo false)] [] (by kernel_rfl) (by kernel_rfl) ?_
    refine zn ?_
    refine AT_ret ?_
    have e_ := Option.some.inj h
    subst e_
    exact ⟨[bo false], _, S_, (.of (by kernel_rfl)), D.le.refl _, Store.le.refl _, rfl, hh⟩
  rw [if_t hc6] at h
  refine seg 12 [2, 3, 52] [(52, bo (a1.Stat.Has == (decide (a1.Stat.Nulls < a1.Rows))))] [42, 43, 44, 45, 46, 47, 48, 49, 50, 51] (by kernel_rfl) (by kernel_rfl) ?_
  refine casedR 52 (a1.Stat.Has == (decide (a1.Stat.Nulls < a1.Rows))) (by kernel_rfl) (fun hc7 => ?_) (fun hc7 => ?_)
  · rw [if_f hc7] at h
    refine seg 10 [4] [(4, bo false)] [] (by kernel_rfl) (by kernel_rfl) ?_
    refine zn ?_
    refine AT_ret ?_
    have e_ := Option.some.inj h
    subst e_
    exact ⟨[bo false], _, S_, (.of (by kernel_rfl)), D.le.refl _, Store.le.refl _, rfl, hh⟩
  rw [if_t hc7] at h
  refine seg 3 [3, 52, 55] [(55, bo a0.Nullable)] [45, 46, 47, 48, 49, 50, 51] (by kernel_rfl) (by kernel_rfl) ?_
  refine cased 55 a0.Nullable (by kernel_rfl) (fun hc8 => ?_) (fun hc8 => ?_)
  · rw [if_t hc8] at h
    refine seg 7 [4] [(4, bo true)] [] (by kernel_rfl) (by kernel_rfl) ?_
    refine zn ?_
    refine AT_ret ?_
    have e_ := Option.some.inj h
    subst e_
    exact ⟨[bo true], _, S_, (.of (by kernel_rfl)), D.le.refl _, Store.le.refl _, rfl, hh⟩
  rw [if_f hc8] at h
  refine seg 7 [4] [(4, bo (a1.Stat.Nulls == 0))] [] (by kernel_rfl) (by kernel_rfl) ?_
  refine zn ?_
  refine AT_ret ?_
  have e_ := Option.some.inj h
  subst e_
  exact ⟨[bo (a1.Stat.Nulls == 0)], _, S_, (.of (by kernel_rfl)), D.le.refl _, Store.le.refl _, rfl, hh⟩
def ref19_chunk.l0 : Nat → Col → (List PageInfo) → Int → Int → Int → Option (Int × Int)
  | 0, _, _, _, _, _ => none
  | k + 1, a0, a1, x1, x2, x3 => if (decide (x3 < (a1.length : Int))) = true then (if 0 ≤ x3 ∧ x3 < (a1.length : Int) then ((ref19_pageRight.f k a0 (rd a1 x3 PageInfo.zero)).bind fun v1 => (if (!v1) = true then (some ((-1), (-1))) else (if (decide (x1 > 65536)) = true then (some ((-1), (-1))) else (if (decide (x2 > 1073741824)) = true then (some ((-1), (-1))) else (if 0 ≤ x3 ∧ x3 < (a1.length : Int) then (if 0 ≤ x3 ∧ x3 < (a1.length : Int) then (ref19_chunk.l0 k a0 a1 (IntKind.wrap .i64 (x1 + ((rd a1 x3 PageInfo.zero).Rows))) (IntKind.wrap .i64 (x2 + ((rd a1 x3 PageInfo.zero).Size))) (IntKind.wrap .i64 (x3 + 1))) else none) else none))))) else none) else (some (x1, x2))
def ref19_chunk.f (k : Nat) (a0 : Col) (a1 : (List PageInfo)) : Option (Int × Int) := ref19_chunk.l0 k a0 a1 0 0 0
theorem ref19_chunk.mono_l : ∀ k, (∀ y0 y1 y2 y3 y4, LeO (ref19_chunk.l0 k y0 y1 y2 y3 y4) (ref19_chunk.l0 (k + 1) y0 y1 y2 y3 y4))
  | 0 => fun _ _ _ _ _ r h => (by simp only [ref19_chunk.l0] at h; cases h)
  | k + 1 => by
    have ih := ref19_chunk.mono_l k
    · intro y0 y1 y2 y3 y4
      rw [ref19_chunk.l0, ref19_chunk.l0]
      repeat' first
        | exact LeO.refl _
        | exact LeO.none _
        | exact ih _ _ _ _ _
        | exact ref19_pageRight.mono _ _ _
        | refine LeO.ite ?_ ?_
        | refine LeO.bind ?_ (fun _ => ?_)
theorem ref19_chunk.mono (k : Nat) (a0 : Col) (a1 : (List PageInfo)) : LeO (ref19_chunk.f k a0 a1) (ref19_chunk.f (k + 1) a0 a1) := by
  unfold ref19_chunk.f
  repeat' first
    | exact LeO.refl _
    | exact LeO.none _
    | exact (ref19_chunk.mono_l k) _ _ _ _ _
    | exact ref19_pageRight.mono _ _ _
    | refine LeO.ite ?_ ?_
    | refine LeO.bind ?_ (fun _ => ?_)
theorem ref19_chunk.ok (k : Nat) (a0 : Col) (a1 : (List PageInfo)) (S : Store) (r0 : Int) (r1 : Int) (h : ref19_chunk.f k a0 a1 = some (r0, r1)) : ACalls Try.prog 14 [.ag (Col.enc a0), .sl 14 (a1.map PageInfo.enc) none] S (fun r_ S_ => r_ = .tup [i64 r0, i64 r1] ∧ Own S [] S_ []) := by
  unfold ref19_chunk.f at h
  refine acalls_of Try.func14 rfl ?_
  have hh := Own.nil (S := S)
  refine AT_forget 0x3 (mkS 48 [(0, .ag (Col.enc a0)), (1, .sl 14 (a1.map PageInfo.enc) none)]) (by kernel_rfl) ?_
  refine zsr ?_
  refine AOps_box_im (ds := (Col.enc a0)) (tl_get rfl) rfl rfl (by kernel_rfl) ?_
  refine fg [1, 2] ?_
  refine seg 2 [1, 2] [] [] (by kernel_rfl) (by kernel_rfl) ?_
  refine znsr ?_
  refine seg 1 [1, 2, 6] [(6, i64 0)] [] (by kernel_rfl) (by kernel_rfl) ?_
  refine znsr ?_
  refine seg 1 [1, 2, 6, 7] [(7, i64 0)] [] (by kernel_rfl) (by kernel_rfl) ?_
  refine zn ?_
  refine AT_seq ?_
  refine zsr ?_
  refine seg 1 [1, 2, 6, 7, 8] [(8, i64 0)] [] (by kernel_rfl) (by kernel_rfl) ?_
  refine zn ?_
  refine AT_block ?_
  refine AT_loopM 0x1c6 (fun k_ sl_ S_ => k_ ≤ k ∧ ∃ (x1 : Int), ∃ (x2 : Int), ∃ (x3 : Int), LeL sl_ (mkS 48 [(1, .sl 14 (a1.map PageInfo.enc) none), (2, .pt (Col.enc a0)), (6, i64 x1), (7, i64 x2), (8, i64 x3)]) ∧ ref19_chunk.l0 k_ a0 a1 x1 x2 x3 = some (r0, r1) ∧ Own S [] S_ []) k ⟨Nat.le_refl _, 0, 0, 0, (le_rf (by kernel_rfl)), h, hh⟩ ?_
  clear hh h
  rintro k' sl_ S_ ⟨hk_, x1, x2, x3, hl_, h, hh⟩
  refine AT_weaken hl_ ?_
  obtain _ | k1 := k'
  · cases h
  rw [ref19_chunk.l0] at h
  refine AT_seq ?_
  refine zsr ?_
  refine seg 3 [1, 2, 6, 7, 8, 10, 12] [(10, i64 x3), (12, i64 ((a1.map PageInfo.enc).length : Int))] [3] (by kernel_rfl) (by kernel_rfl) ?_
  refine tod 12 (i64 ((a1.map PageInfo.enc).length : Int)) (i64 (a1.length : Int)) (by kernel_rfl) (by rw [List.length_map]) ?_
  refine seg 1 [1, 2, 6, 7, 8, 13] [(13, bo (decide (x3 < (a1.length : Int))))] [] (by kernel_rfl) (by kernel_rfl) ?_
  refine zn ?_
  refine AT_condR (decide (x3 < (a1.length : Int))) (by kernel_rfl) (fun hc1 => ?_) (fun hc1 => ?_)
  · rw [if_f hc1] at h
    refine AT_exit ?_
    refine athen_e ?_
    refine athen_e ?_
    refine ablock_h ?_
    refine athen_n ?_
    refine zsr ?_
    refine seg 4 [4, 5] [(4, i64 x1), (5, i64 x2)] [] (by kernel_rfl) (by kernel_rfl) ?_
    refine zn ?_
    refine AT_ret ?_
    have e0_ : x1 = r0 := congrArg (fun p_ => p_.1) (Option.some.inj h)
    have e1_ : x2 = r1 := congrArg (fun p_ => p_.2) (Option.some.inj h)
    subst e0_
    subst e1_
    exact ⟨[i64 x1, i64 x2], _, S_, (.of (by kernel_rfl)), D.le.refl _, Store.le.refl _, rfl, hh⟩
  rw [if_t hc1] at h
  refine zkn ?_
  refine AT_seq ?_
  refine AT_block ?_
  refine AT_seq ?_
  refine AT_draw [5] 7 (fun _ => True) (by kernel_rfl) ?_
  refine aseg 7 [] [1, 2, 6, 7, 8] [] #[false, false, false, false, false, false, false] (by kernel_rfl) (by kernel_rfl) ?_
  obtain ⟨hi2, h⟩ := is h
  refine asegc 3 [0, 1, 2, 3] [1, 2, 6, 7, 8, 16, 19] [(16, .ag (Col.enc a0)), (19, .pt ((a1.map PageInfo.enc).getD (x3 : Int).toNat []))] (0 ≤ x3 ∧ x3 < ((a1.map PageInfo.enc).length : Int)) #[true, true, true, true, false, false, false] (by kernel_rfl) (idx_ok hi2) (by kernel_rfl) ?_
  refine atod 19 (.pt ((a1.map PageInfo.enc).getD (x3 : Int).toNat [])) (.pt (PageInfo.enc (rd a1 x3 PageInfo.zero))) (by kernel_rfl) (by rw [pt_rd PageInfo.enc a1 x3 PageInfo.zero hi2.1 hi2.2]) ?_
  refine aseg 2 [4] [1, 2, 6, 7, 8, 16, 20] [(20, .ag (PageInfo.enc (rd a1 x3 PageInfo.zero)))] #[true, true, true, true, true, false, false] (by kernel_rfl) (by kernel_rfl) ?_
  refine AAny_eff (fuel := 1) 5 (.inr trivial) (tl_get rfl) (by kernel_rfl) (by kernel_rfl) (by kernel_rfl) ?_
  obtain ⟨v1, ht1, h⟩ := bs h
  refine AOps_callR _ [.ag (Col.enc a0), .ag (PageInfo.enc (rd a1 x3 PageInfo.zero))] (tl_get rfl) rfl rfl rfl rfl Try.func28 (by decide) rfl ((.cons (D.le.refl _) (.cons (D.le.refl _) (.nil)))) (ref19_pageRight.ok _ a0 (rd a1 x3 PageInfo.zero) _  _ ht1) ?_
  rintro _ S_ ⟨rfl, h2_⟩
  replace hh := hh.call0 h2_
  refine AOps_end ⟨rfl, _, rfl, ?_⟩; refine afg [1, 2, 6, 7, 8, 21] #[true, true, true, true, true, true, false] (by kernel_rfl) ?_
  refine aseg 0 [6] [1, 2, 6, 7, 8, 9] [(9, bo v1)] #[true, true, true, true, true, true, true] (by kernel_rfl) (by kernel_rfl) ?_
  refine AAny_end (.inr trivial) (by kernel_rfl) ?_
  refine athen_n ?_
  refine AT_seq ?_
  refine zsr ?_
  refine seg 3 [1, 2, 6, 7, 8, 24] [(24, bo (!v1))] [3, 4, 5, 6, 7, 8, 9] (by kernel_rfl) (by kernel_rfl) ?_
  refine cased 24 (!v1) (by kernel_rfl) (fun hc5 => ?_) (fun hc5 => ?_)
  · rw [if_t hc5] at h
    refine AOps_seg 7 0x800001c6 (mkS 48 [(1, .sl 14 (a1.map PageInfo.enc) none), (2, .pt (Col.enc a0)), (6, i64 x1), (7, i64 x2), (8, i64 x3), (31, bo true)]) none [] (by kernel_rfl) (by kernel_rfl) trivial ?_
    refine zn ?_
    refine AT_cond_t (by kernel_rfl) ?_
    refine zsr ?_
    refine seg 2 [4, 5] [(4, i64 (-1)), (5, i64 (-1))] [] (by kernel_rfl) (by kernel_rfl) ?_
    refine zn ?_
    refine AT_ret ?_
    refine athen_r ?_
    refine ablock_r ?_
    refine athen_r ?_
    refine athen_r ?_
    refine ablock_r ?_
    refine athen_r ?_
    have e0_ : (-1) = r0 := congrArg (fun p_ => p_.1) (Option.some.inj h)
    have e1_ : (-1) = r1 := congrArg (fun p_ => p_.2) (Option.some.inj h)
    subst e0_
    subst e1_
    exact ⟨[i64 (-1), i64 (-1)], _, S_, (.of (by kernel_rfl)), D.le.refl _, Store.le.refl _, rfl, hh⟩
  rw [if_f hc5] at h
  refine AOps_seg 4 0x100001c6 (mkS 48 [(1, .sl 14 (a1.map PageInfo.enc) none), (2, .pt (Col.enc a0)), (6, i64 x1), (7, i64 x2), (8, i64 x3), (28, bo (decide (x1 > 65536)))]) none [7, 8, 9] (by kernel_rfl) (by kernel_rfl) trivial ?_
  refine cased 28 (decide (x1 > 65536)) (by kernel_rfl) (fun hc6 => ?_) (fun hc6 => ?_)
  · rw [if_t hc6] at h
    refine seg 3 [1, 2, 6, 7, 8, 31] [(31, bo true)] [] (by kernel_rfl) (by kernel_rfl) ?_
    refine zn ?_
    refine AT_cond_t (by kernel_rfl) ?_
    refine zsr ?_
    refine seg 2 [4, 5] [(4, i64 (-1)), (5, i64 (-1))] [] (by kernel_rfl) (by kernel_rfl) ?_
    refine zn ?_
    refine AT_ret ?_
    refine athen_r ?_
    refine ablock_r ?_
    refine athen_r ?_
    refine athen_r ?_
    refine ablock_r ?_
    refine athen_r ?_
    have e0_ : (-1) = r0 := congrArg (fun p_ => p_.1) (Option.some.inj h)
    have e1_ : (-1) = r1 := congrArg (fun p_ => p_.2) (Option.some.inj h)
    subst e0_
    subst e1_
    exact ⟨[i64 (-1), i64 (-1)], _, S_, (.of (by kernel_rfl)), D.le.refl _, Store.le.refl _, rfl, hh⟩
  rw [if_f hc6] at h
  refine seg 3 [1, 2, 6, 7, 8, 31] [(31, bo (decide (x2 > 1073741824)))] [] (by kernel_rfl) (by kernel_rfl) ?_
  refine zn ?_
  refine AT_condS (decide (x2 > 1073741824)) (by kernel_rfl) (fun hc7 => ?_) (fun hc7 => ?_)
  · rw [if_t hc7] at h
    refine zsr ?_
    refine seg 2 [4, 5] [(4, i64 (-1)), (5, i64 (-1))] [] (by kernel_rfl) (by kernel_rfl) ?_
    refine zn ?_
    refine AT_ret ?_
    refine athen_r ?_
    refine ablock_r ?_
    refine athen_r ?_
    refine athen_r ?_
    refine ablock_r ?_
    refine athen_r ?_
    have e0_ : (-1) = r0 := congrArg (fun p_ => p_.1) (Option.some.inj h)
    have e1_ : (-1) = r1 := congrArg (fun p_ => p_.2) (Option.some.inj h)
    subst e0_
    subst e1_
    exact ⟨[i64 (-1), i64 (-1)], _, S_, (.of (by kernel_rfl)), D.le.refl _, Store.le.refl _, rfl, hh⟩
  rw [if_f hc7] at h
  refine zkn ?_
  refine zsr ?_
  obtain ⟨hi3, h⟩ := is h
  refine segc 4 [1, 2, 7, 8, 32, 35] [(32, i64 x1), (35, .pt ((a1.map PageInfo.enc).getD (x3 : Int).toNat []))] (0 ≤ x3 ∧ x3 < ((a1.map PageInfo.enc).length : Int)) [4, 5, 6, 7] (by kernel_rfl) (by kernel_rfl) (idx_ok hi3) ?_
  refine tod 35 (.pt ((a1.map PageInfo.enc).getD (x3 : Int).toNat [])) (.pt (PageInfo.enc (rd a1 x3 PageInfo.zero))) (by kernel_rfl) (by rw [pt_rd PageInfo.enc a1 x3 PageInfo.zero hi3.1 hi3.2]) ?_
  refine seg 4 [1, 2, 6, 7, 8] [(6, i64 (IntKind.wrap .i64 (x1 + ((rd a1 x3 PageInfo.zero).Rows))))] [] (by kernel_rfl) (by kernel_rfl) ?_
  refine znr ?_
  obtain ⟨hi4, h⟩ := is h
  refine segc 4 [1, 2, 6, 8, 39, 42] [(39, i64 x2), (42, .pt ((a1.map PageInfo.enc).getD (x3 : Int).toNat []))] (0 ≤ x3 ∧ x3 < ((a1.map PageInfo.enc).length : Int)) [4, 5, 6, 7] (by kernel_rfl) (by kernel_rfl) (idx_ok hi4) ?_
  refine tod 42 (.pt ((a1.map PageInfo.enc).getD (x3 : Int).toNat [])) (.pt (PageInfo.enc (rd a1 x3 PageInfo.zero))) (by kernel_rfl) (by rw [pt_rd PageInfo.enc a1 x3 PageInfo.zero hi4.1 hi4.2]) ?_
  refine seg 4 [1, 2, 6, 7, 8] [(7, i64 (IntKind.wrap .i64 (x2 + ((rd a1 x3 PageInfo.zero).Size))))] [] (by kernel_rfl) (by kernel_rfl) ?_
  refine AOps_end ?_
  refine ablock_n ?_
  refine athen_n ?_
  refine AT_region ?_
  refine seg 3 [1, 2, 6, 7, 8] [(8, i64 (IntKind.wrap .i64 (x3 + 1)))] [] (by kernel_rfl) (by kernel_rfl) ?_
  refine zn ?_
  exact ⟨k1, (by omega), (by omega), IntKind.wrap .i64 (x1 + ((rd a1 x3 PageInfo.zero).Rows)), IntKind.wrap .i64 (x2 + ((rd a1 x3 PageInfo.zero).Size)), IntKind.wrap .i64 (x3 + 1), (le_rf (by kernel_rfl)), h, hh⟩
end Go.Proofs.Ytfaojkajlpojlaa.Abs
