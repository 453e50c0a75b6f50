/- What functions of the program compute, each with the proof that it does (printed by wip/gen/all2.py). -/
import Derived.Test.YtfaojkajlpojlaaV0
import Derived.KernelRfl
namespace Go.Proofs.Ytfaojkajlpojlaa.Abs
open Go
set_option maxRecDepth 100000
def cmp_Or_int.l0 : Nat → (List Int) → Int → Option (Int)
  | 0, _, _ => none
  | k + 1, a0, x1 => if (decide (x1 < (a0.length : Int))) = true then (if 0 ≤ x1 ∧ x1 < (a0.length : Int) then (if ((rd a0 x1 0) != 0) = true then (some (rd a0 x1 0)) else (cmp_Or_int.l0 k a0 (IntKind.wrap .i64 (x1 + 1)))) else none) else (some 0)
def cmp_Or_int.f (k : Nat) (a0 : (List Int)) : Option (Int) := cmp_Or_int.l0 k a0 0
theorem cmp_Or_int.mono_l : ∀ k, (∀ y0 y1, LeO (cmp_Or_int.l0 k y0 y1) (cmp_Or_int.l0 (k + 1) y0 y1))
  | 0 => fun _ _ r h => (by simp only [cmp_Or_int.l0] at h; cases h)
  | k + 1 => by
    have ih := cmp_Or_int.mono_l k
    · intro y0 y1
      rw [cmp_Or_int.l0, cmp_Or_int.l0]
      repeat' first
        | exact LeO.refl _
        | exact LeO.none _
        | exact ih _ _
        | refine LeO.ite ?_ ?_
        | refine LeO.bind ?_ (fun _ => ?_)
theorem cmp_Or_int.mono (k : Nat) (a0 : (List Int)) : LeO (cmp_Or_int.f k a0) (cmp_Or_int.f (k + 1) a0) := by
  unfold cmp_Or_int.f
  repeat' first
    | exact LeO.refl _
    | exact LeO.none _
    | exact (cmp_Or_int.mono_l k) _ _
    | refine LeO.ite ?_ ?_
    | refine LeO.bind ?_ (fun _ => ?_)
theorem cmp_Or_int.ok (k : Nat) (a0 : (List Int)) (S : Store) (r : Int) (h : cmp_Or_int.f k a0 = some r) : ACalls Try.prog 72 [.sl 1 (a0.map eI) none] S (fun r_ S_ => r_ = i64 r ∧ Own S [] S_ []) := by
  unfold cmp_Or_int.f at h
  refine acalls_of Try.func72 rfl ?_
  have hh := Own.nil (S := S)
  refine AT_forget 0x1 (mkS 18 [(0, .sl 1 (a0.map eI) none)]) (by kernel_rfl) ?_
  refine zsr ?_
  refine seg 1 [0] [] [] (by kernel_rfl) (by kernel_rfl) ?_
  refine znsr ?_
  refine seg 1 [0, 3] [(3, i64 0)] [] (by kernel_rfl) (by kernel_rfl) ?_
  refine zn ?_
  refine AT_seq ?_
  refine zsr ?_
  refine seg 2 [3, 6, 7] [(6, .sl 1 (a0.map eI) none), (7, i64 ((a0.map eI).length : Int))] [2] (by kernel_rfl) (by kernel_rfl) ?_
  refine tod 7 (i64 ((a0.map eI).length : Int)) (i64 (a0.length : Int)) (by kernel_rfl) (by rw [List.length_map]) ?_
  refine seg 1 [3, 6, 7, 8] [(8, i64 0)] [] (by kernel_rfl) (by kernel_rfl) ?_
  refine zn ?_
  refine AT_block ?_
  refine AT_loopM 0x1c8 (fun k_ sl_ S_ => k_ ≤ k ∧ ∃ (x1 : Int), LeL sl_ (mkS 18 [(3, i64 0), (6, .sl 1 (a0.map eI) none), (7, i64 (a0.length : Int)), (8, i64 x1)]) ∧ cmp_Or_int.l0 k_ a0 x1 = some r ∧ Own S [] S_ []) k ⟨Nat.le_refl _, 0, (le_rf (by kernel_rfl)), h, hh⟩ ?_
  clear hh h
  rintro k' sl_ S_ ⟨hk_, x1, hl_, h, hh⟩
  refine AT_weaken hl_ ?_
  obtain _ | k1 := k'
  · cases h
  rw [cmp_Or_int.l0] at h
  refine zsr ?_
  refine seg 1 [3, 6, 7, 8, 9] [(9, bo (decide (x1 < (a0.length : Int))))] [] (by kernel_rfl) (by kernel_rfl) ?_
  refine zn ?_
  refine AT_seq ?_
  refine AT_condR (decide (x1 < (a0.length : Int))) (by kernel_rfl) (fun hc1 => ?_) (fun hc1 => ?_)
  · rw [if_f hc1] at h
    refine AT_exit ?_
    refine athen_e ?_
    refine athen_e ?_
    refine ablock_h ?_
    refine athen_n ?_
    refine zsr ?_
    refine seg 2 [2] [(2, i64 0)] [] (by kernel_rfl) (by kernel_rfl) ?_
    refine zn ?_
    refine AT_ret ?_
    have e_ := Option.some.inj h
    subst e_
    exact ⟨[i64 0], _, S_, (.of (by kernel_rfl)), D.le.refl _, Store.le.refl _, rfl, hh⟩
  rw [if_t hc1] at h
  refine zkn ?_
  refine AT_seq ?_
  refine AT_block ?_
  refine zsr ?_
  obtain ⟨hi2, h⟩ := is h
  refine segc 1 [3, 6, 7, 8, 10] [(10, .pt ((a0.map eI).getD (x1 : Int).toNat []))] (0 ≤ x1 ∧ x1 < ((a0.map eI).length : Int)) [1, 2] (by kernel_rfl) (by kernel_rfl) (idx_ok hi2) ?_
  refine tod 10 (.pt ((a0.map eI).getD (x1 : Int).toNat [])) (.pt [i64 (rd a0 x1 0)]) (by kernel_rfl) (by rw [pt_rd eI a0 x1 0 hi2.1 hi2.2]) ?_
  refine seg 2 [3, 5, 6, 7, 8] [(5, i64 (rd a0 x1 0))] [] (by kernel_rfl) (by kernel_rfl) ?_
  refine znsr ?_
  refine seg 3 [3, 5, 6, 7, 8, 14] [(14, bo ((rd a0 x1 0) != 0))] [] (by kernel_rfl) (by kernel_rfl) ?_
  refine zn ?_
  refine AT_condR ((rd a0 x1 0) != 0) (by kernel_rfl) (fun hc2 => ?_) (fun hc2 => ?_)
  · rw [if_f hc2] at h
    refine AT_skip ?_
    refine ablock_n ?_
    refine athen_n ?_
    refine AT_region ?_
    refine seg 2 [3, 6, 7, 8] [(8, i64 (IntKind.wrap .i64 (x1 + 1)))] [] (by kernel_rfl) (by kernel_rfl) ?_
    refine zn ?_
    exact ⟨k1, (by omega), (by omega), IntKind.wrap .i64 (x1 + 1), (le_rf (by kernel_rfl)), h, hh⟩
  rw [if_t hc2] at h
  refine zsr ?_
  refine seg 2 [2] [(2, i64 (rd a0 x1 0))] [] (by kernel_rfl) (by kernel_rfl) ?_
  refine zn ?_
  refine AT_ret ?_
  refine ablock_r ?_
  refine athen_r ?_
  refine athen_r ?_
  refine ablock_r ?_
  refine athen_r ?_
  have e_ := Option.some.inj h
  subst e_
  exact ⟨[i64 (rd a0 x1 0)], _, S_, (.of (by kernel_rfl)), D.le.refl _, Store.le.refl _, rfl, hh⟩
def point_Compare.f (k : Nat) (a0 : Point) (a1 : Point) : Option (Int) := (point_Norm.f a0).bind fun v1 => ((point_Norm.f a1).bind fun v2 => ((cmp_Compare_int.f v1 v2).bind fun v3 => ((cmp_Compare_int.f a0.X a1.X).bind fun v4 => ((cmp_Compare_int.f a0.Y a1.Y).bind fun v5 => ((cmp_Or_int.f k ([v3, v4, v5] : List Int)).bind fun v6 => (some v6))))))
theorem point_Compare.mono (k : Nat) (a0 : Point) (a1 : Point) : LeO (point_Compare.f k a0 a1) (point_Compare.f (k + 1) a0 a1) := by
  unfold point_Compare.f
  repeat' first
    | exact LeO.refl _
    | exact LeO.none _
    | exact cmp_Or_int.mono _ _
    | refine LeO.ite ?_ ?_
    | refine LeO.bind ?_ (fun _ => ?_)
theorem point_Compare.ok (k : Nat) (a0 : Point) (a1 : Point) (S : Store) (r : Int) (h : point_Compare.f k a0 a1 = some r) : ACalls Try.prog 56 [.ag (Point.enc a0), .ag (Point.enc a1)] S (fun r_ S_ => r_ = i64 r ∧ Own S [] S_ []) := by
  unfold point_Compare.f at h
  refine acalls_of Try.func56 rfl ?_
  have hh := Own.nil (S := S)
  refine AT_forget 0x3 (mkS 22 [(0, .ag (Point.enc a0)), (1, .ag (Point.enc a1))]) (by kernel_rfl) ?_
  refine zsr ?_
  refine AOps_box_im (ds := (Point.enc a0)) (tl_get rfl) rfl rfl (by kernel_rfl) ?_
  refine fg [1, 2] ?_
  refine AOps_box_im (ds := (Point.enc a1)) (tl_get rfl) rfl rfl (by kernel_rfl) ?_
  refine fg [2, 3] ?_
  refine seg 1 [2, 3] [] [] (by kernel_rfl) (by kernel_rfl) ?_
  refine zn ?_
  refine AT_seq ?_
  refine AT_draw [1, 3, 4, 9, 14, 15, 16] 18 (fun _ => True) (by kernel_rfl) ?_
  refine aseg 18 [] [2, 3] [] #[false, false, false, false, false, false, false, false, false, false, false, false, false, false, false, false, false, false] (by kernel_rfl) (by kernel_rfl) ?_
  refine aseg 8 [0, 2, 5, 6, 7, 8, 10, 11, 12, 13] [5, 7, 11, 13, 16, 18] [(5, .ag (Point.enc a0)), (7, .ag (Point.enc a1)), (11, i64 a0.X), (13, i64 a1.X), (16, i64 a0.Y), (18, i64 a1.Y)] #[true, false, true, false, false, true, true, true, true, false, true, true, true, true, false, false, false, false] (by kernel_rfl) (by kernel_rfl) ?_
  refine AAny_eff (fuel := 7) 1 (.inr trivial) (tl_get rfl) (by kernel_rfl) (by kernel_rfl) (by kernel_rfl) ?_
  obtain ⟨v1, ht1, h⟩ := bs h
  refine AOps_callR _ [.ag (Point.enc a0)] (tl_get rfl) rfl rfl rfl rfl Try.func73 (by decide) rfl ((.cons (D.le.refl _) (.nil))) (point_Norm.ok a0 _  _ ht1) ?_
  rintro _ S_ ⟨rfl, h2_⟩
  replace hh := hh.call0 h2_
  refine AOps_end ⟨rfl, _, rfl, ?_⟩; refine afg [6, 7, 11, 13, 16, 18] #[true, true, true, false, false, true, true, true, true, false, true, true, true, true, false, false, false, false] (by kernel_rfl) ?_
  refine AAny_eff (fuel := 6) 3 (.inr trivial) (tl_get rfl) (by kernel_rfl) (by kernel_rfl) (by kernel_rfl) ?_
  obtain ⟨v2, ht2, h⟩ := bs h
  refine AOps_callR _ [.ag (Point.enc a1)] (tl_get rfl) rfl rfl rfl rfl Try.func73 (by decide) rfl ((.cons (D.le.refl _) (.nil))) (point_Norm.ok a1 _  _ ht2) ?_
  rintro _ S_ ⟨rfl, h2_⟩
  replace hh := hh.call0 h2_
  refine AOps_end ⟨rfl, _, rfl, ?_⟩; refine afg [6, 8, 11, 13, 16, 18] #[true, true, true, true, false, true, true, true, true, false, true, true, true, true, false, false, false, false] (by kernel_rfl) ?_
  refine AAny_eff (fuel := 5) 4 (.inr trivial) (tl_get rfl) (by kernel_rfl) (by kernel_rfl) (by kernel_rfl) ?_
  obtain ⟨v3, ht3, h⟩ := bs h
  refine AOps_callR _ [i64 v1, i64 v2] (tl_get rfl) rfl rfl rfl rfl Try.func54 (by decide) rfl ((.cons (D.le.refl _) (.cons (D.le.refl _) (.nil)))) (cmp_Compare_int.ok v1 v2 _  _ ht3) ?_
  rintro _ S_ ⟨rfl, h2_⟩
  replace hh := hh.call0 h2_
  refine AOps_end ⟨rfl, _, rfl, ?_⟩; refine afg [9, 11, 13, 16, 18] #[true, true, true, true, true, true, true, true, true, false, true, true, true, true, false, false, false, false] (by kernel_rfl) ?_
  refine AAny_eff (fuel := 4) 9 (.inr trivial) (tl_get rfl) (by kernel_rfl) (by kernel_rfl) (by kernel_rfl) ?_
  obtain ⟨v4, ht4, h⟩ := bs h
  refine AOps_callR _ [i64 a0.X, i64 a1.X] (tl_get rfl) rfl rfl rfl rfl Try.func54 (by decide) rfl ((.cons (D.le.refl _) (.cons (D.le.refl _) (.nil)))) (cmp_Compare_int.ok a0.X a1.X _  _ ht4) ?_
  rintro _ S_ ⟨rfl, h2_⟩
  replace hh := hh.call0 h2_
  refine AOps_end ⟨rfl, _, rfl, ?_⟩; refine AAny_forget 0x54200 (mkS 22 [(9, i64 v3), (14, i64 v4), (16, i64 a0.Y), (18, i64 a1.Y)]) #[true, true, true, true, true, true, true, true, true, true, true, true, true, true, false, false, false, false] (by kernel_rfl) (by kernel_rfl) ?_
  refine AAny_eff (fuel := 3) 14 (.inr trivial) (tl_get rfl) (by kernel_rfl) (by kernel_rfl) (by kernel_rfl) ?_
  obtain ⟨v5, ht5, h⟩ := bs h
  refine AOps_callR _ [i64 a0.Y, i64 a1.Y] (tl_get rfl) rfl rfl rfl rfl Try.func54 (by decide) rfl ((.cons (D.le.refl _) (.cons (D.le.refl _) (.nil)))) (cmp_Compare_int.ok a0.Y a1.Y _  _ ht5) ?_
  rintro _ S_ ⟨rfl, h2_⟩
  replace hh := hh.call0 h2_
  refine AOps_end ⟨rfl, _, rfl, ?_⟩; refine afg [9, 14, 19] #[true, true, true, true, true, true, true, true, true, true, true, true, true, true, true, false, false, false] (by kernel_rfl) ?_
  refine AAny_eff (fuel := 2) 15 (.inr trivial) (tl_get rfl) (by kernel_rfl) (by kernel_rfl) (by kernel_rfl) ?_
  refine AOps_litU (sz := 1) (es := [[i64 v3], [i64 v4], [i64 v5]]) (tl_get rfl) rfl rfl rfl (by kernel_rfl) (by decide) (by kernel_rfl) (by decide) (by kernel_rfl) (by kernel_rfl) (by intro x hx; simp only [List.mem_cons, List.not_mem_nil, or_false] at hx; rcases hx with rfl | rfl | rfl <;> rfl) (fun S_ t1 hf_ u_ => ?_)
  replace hh := hh.tkN' hf_ u_ (n := (([v3, v4, v5] : List Int)).length) (by first | rfl | (simp [bytesD_len]; done) | (simp [bytesD_len]; omega))
  refine AOps_end ⟨rfl, _, rfl, ?_⟩; refine afg [20] #[true, true, true, true, true, true, true, true, true, true, true, true, true, true, true, true, false, false] (by kernel_rfl) ?_
  refine AAny_eff (fuel := 1) 16 (.inr trivial) (tl_get rfl) (by kernel_rfl) (by kernel_rfl) (by kernel_rfl) ?_
  obtain ⟨v6, ht6, h⟩ := bs h
  refine AOps_callR _ [.sl 1 (([v3, v4, v5] : List Int).map eI) none] (tl_get rfl) rfl rfl rfl rfl Try.func72 (by decide) rfl ((.cons (sl_le) (.nil))) (cmp_Or_int.ok _ ([v3, v4, v5] : List Int) _  _ ht6) ?_
  rintro _ S_ ⟨rfl, h2_⟩
  replace hh := hh.call0 h2_
  refine AOps_end ⟨rfl, _, rfl, ?_⟩; refine afg [21] #[true, true, true, true, true, true, true, true, true, true, true, true, true, true, true, true, true, false] (by kernel_rfl) ?_
  refine aseg 0 [17] [4] [(4, i64 v6)] #[true, true, true, true, true, true, true, true, true, true, true, true, true, true, true, true, true, true] (by kernel_rfl) (by kernel_rfl) ?_
  refine AAny_end (.inr trivial) (by kernel_rfl) ?_
  refine athen_n ?_
  refine AT_ret ?_
  have e_ := Option.some.inj h
  subst e_
  exact ⟨[i64 v6], _, S_, (.of (by kernel_rfl)), D.le.refl _, Store.le.refl _, rfl, (hh.sub [] (by decide) (by kernel_rfl))⟩
mutual
def cell_Compare.j1 : Nat → Int → Cell → Cell → Bool → Option (Int)
  | 0, _, _, _, _ => none
  | k + 1, a0, a1, a2, x3 => if x3 = true then ((cmp_Compare_int.f a1.Int a2.Int).bind fun v1 => (some v1)) else (if (a0 == 2) = true then ((strings_Compare.f a1.Text a2.Text).bind fun v2 => (some v2)) else (if (a0 == 3) = true then ((point_Compare.f k a1.At a2.At).bind fun v3 => (some v3)) else (some 0)))
def cell_Compare.j0 : Nat → Int → Cell → Cell → Bool → Option (Int)
  | 0, _, _, _, _ => none
  | k + 1, a0, a1, a2, x2 => if x2 = true then (some 0) else (if a1.Null = true then (some (-1)) else (if a2.Null = true then (some 1) else (if (a0 == 0) = true then (cell_Compare.j1 k a0 a1 a2 (a0 == 0)) else (cell_Compare.j1 k a0 a1 a2 (a0 == 1)))))
end
def cell_Compare.f (k : Nat) (a0 : Int) (a1 : Cell) (a2 : Cell) : Option (Int) := if a1.Null = true then (cell_Compare.j0 k a0 a1 a2 a2.Null) else (cell_Compare.j0 k a0 a1 a2 false)
theorem cell_Compare.mono_l : ∀ k, (∀ y0 y1 y2 y3, LeO (cell_Compare.j1 k y0 y1 y2 y3) (cell_Compare.j1 (k + 1) y0 y1 y2 y3)) ∧ (∀ y0 y1 y2 y3, LeO (cell_Compare.j0 k y0 y1 y2 y3) (cell_Compare.j0 (k + 1) y0 y1 y2 y3))
  | 0 => ⟨fun _ _ _ _ r h => (by simp only [cell_Compare.j1] at h; cases h), fun _ _ _ _ r h => (by simp only [cell_Compare.j0] at h; cases h)⟩
  | k + 1 => by
    have ih := cell_Compare.mono_l k
    refine ⟨?_, ?_⟩
    · intro y0 y1 y2 y3
      rw [cell_Compare.j1, cell_Compare.j1]
      repeat' first
        | exact LeO.refl _
        | exact LeO.none _
        | exact ih.1 _ _ _ _
        | exact ih.2 _ _ _ _
        | exact point_Compare.mono _ _ _
        | refine LeO.ite ?_ ?_
        | refine LeO.bind ?_ (fun _ => ?_)
    · intro y0 y1 y2 y3
      rw [cell_Compare.j0, cell_Compare.j0]
      repeat' first
        | exact LeO.refl _
        | exact LeO.none _
        | exact ih.1 _ _ _ _
        | exact ih.2 _ _ _ _
        | exact point_Compare.mono _ _ _
        | refine LeO.ite ?_ ?_
        | refine LeO.bind ?_ (fun _ => ?_)
theorem cell_Compare.mono (k : Nat) (a0 : Int) (a1 : Cell) (a2 : Cell) : LeO (cell_Compare.f k a0 a1 a2) (cell_Compare.f (k + 1) a0 a1 a2) := by
  unfold cell_Compare.f
  repeat' first
    | exact LeO.refl _
    | exact LeO.none _
    | exact (cell_Compare.mono_l k).1 _ _ _ _
    | exact (cell_Compare.mono_l k).2 _ _ _ _
    | exact point_Compare.mono _ _ _
    | refine LeO.ite ?_ ?_
    | refine LeO.bind ?_ (fun _ => ?_)
theorem cell_Compare.ok (k : Nat) (a0 : Int) (a1 : Cell) (a2 : Cell) (S : Store) (r : Int) (h : cell_Compare.f k a0 a1 a2 = some r) : ACalls Try.prog 43 [i64 a0, .ag (Cell.enc a1), .ag (Cell.enc a2)] S (fun r_ S_ => r_ = i64 r ∧ Own S [] S_ []) := by
  unfold cell_Compare.f at h
  refine acalls_of Try.func43 rfl ?_
  have hh := Own.nil (S := S)
  refine AT_forget 0x7 (mkS 43 [(0, i64 a0), (1, .ag (Cell.enc a1)), (2, .ag (Cell.enc a2))]) (by kernel_rfl) ?_
  refine zsr ?_
  refine AOps_box_im (ds := (Cell.enc a1)) (tl_get rfl) rfl rfl (by kernel_rfl) ?_
  refine fg [0, 2, 4] ?_
  refine AOps_box_im (ds := (Cell.enc a2)) (tl_get rfl) rfl rfl (by kernel_rfl) ?_
  refine fg [0, 4, 5] ?_
  refine seg 1 [0, 4, 5] [] [] (by kernel_rfl) (by kernel_rfl) ?_
  refine zn ?_
  refine AT_seq ?_
  refine AT_block ?_
  refine AT_cutM 0xb1 (fun sl_ S_ => ∃ (k_ : Nat), k_ ≤ k ∧ ∃ (x2 : Bool), LeL sl_ (mkS 43 [(0, i64 a0), (4, .pt (Cell.enc a1)), (5, .pt (Cell.enc a2)), (7, bo x2)]) ∧ cell_Compare.j0 k_ a0 a1 a2 x2 = some r ∧ Own S [] S_ []) ?_ ?_
  · refine AT_region ?_
    refine seg 3 [0, 4, 5, 10] [(10, bo a1.Null)] [3, 4, 5, 6] (by kernel_rfl) (by kernel_rfl) ?_
    refine cased 10 a1.Null (by kernel_rfl) (fun hc7 => ?_) (fun hc7 => ?_)
    · rw [if_t hc7] at h
      refine seg 4 [0, 4, 5, 7] [(7, bo a2.Null)] [] (by kernel_rfl) (by kernel_rfl) ?_
      refine zn ?_
      exact ⟨k, (by omega), a2.Null, (le_rf (by kernel_rfl)), h, hh⟩
    rw [if_f hc7] at h
    refine seg 4 [0, 4, 5, 7] [(7, bo false)] [] (by kernel_rfl) (by kernel_rfl) ?_
    refine zn ?_
    exact ⟨k, (by omega), false, (le_rf (by kernel_rfl)), h, hh⟩
  clear h hh
  rintro sl_ S_ ⟨k', hk_, x2, hl_, h, hh⟩
  refine AT_weaken hl_ ?_
  obtain _ | k2 := k'
  · cases h
  rw [cell_Compare.j0] at h
  refine AT_condS x2 (by kernel_rfl) (fun hc8 => ?_) (fun hc8 => ?_)
  · rw [if_t hc8] at h
    refine zsr ?_
    refine seg 1 [6] [(6, i64 0)] [] (by kernel_rfl) (by kernel_rfl) ?_
    refine zn ?_
    refine AT_ret ?_
    refine ablock_r ?_
    refine athen_r ?_
    have e_ := Option.some.inj h
    subst e_
    exact ⟨[i64 0], _, S_, (.of (by kernel_rfl)), D.le.refl _, Store.le.refl _, rfl, hh⟩
  rw [if_f hc8] at h
  refine zsr ?_
  refine seg 3 [0, 4, 5, 14] [(14, bo a1.Null)] [] (by kernel_rfl) (by kernel_rfl) ?_
  refine zn ?_
  refine AT_condS a1.Null (by kernel_rfl) (fun hc9 => ?_) (fun hc9 => ?_)
  · rw [if_t hc9] at h
    refine zsr ?_
    refine seg 1 [6] [(6, i64 (-1))] [] (by kernel_rfl) (by kernel_rfl) ?_
    refine zn ?_
    refine AT_ret ?_
    refine ablock_r ?_
    refine athen_r ?_
    have e_ := Option.some.inj h
    subst e_
    exact ⟨[i64 (-1)], _, S_, (.of (by kernel_rfl)), D.le.refl _, Store.le.refl _, rfl, hh⟩
  rw [if_f hc9] at h
  refine zsr ?_
  refine seg 3 [0, 4, 5, 17] [(17, bo a2.Null)] [] (by kernel_rfl) (by kernel_rfl) ?_
  refine zn ?_
  refine AT_condS a2.Null (by kernel_rfl) (fun hc10 => ?_) (fun hc10 => ?_)
  · rw [if_t hc10] at h
    refine zsr ?_
    refine seg 1 [6] [(6, i64 1)] [] (by kernel_rfl) (by kernel_rfl) ?_
    refine zn ?_
    refine AT_ret ?_
    refine ablock_r ?_
    refine athen_r ?_
    have e_ := Option.some.inj h
    subst e_
    exact ⟨[i64 1], _, S_, (.of (by kernel_rfl)), D.le.refl _, Store.le.refl _, rfl, hh⟩
  rw [if_f hc10] at h
  refine AT_skip ?_
  refine ablock_n ?_
  refine athen_n ?_
  refine AT_seq ?_
  refine zsr ?_
  refine seg 1 [4, 5, 20] [(20, i64 a0)] [] (by kernel_rfl) (by kernel_rfl) ?_
  refine zn ?_
  refine AT_block ?_
  refine AT_cutM 0x300030 (fun sl_ S_ => ∃ (k_ : Nat), k_ ≤ k2 ∧ ∃ (x3 : Bool), LeL sl_ (mkS 43 [(4, .pt (Cell.enc a1)), (5, .pt (Cell.enc a2)), (20, i64 a0), (21, bo x3)]) ∧ cell_Compare.j1 k_ a0 a1 a2 x3 = some r ∧ Own S [] S_ []) ?_ ?_
  · refine AT_seq ?_
    refine AT_region ?_
    refine seg 2 [4, 5, 20, 21] [(21, bo (a0 == 0))] [] (by kernel_rfl) (by kernel_rfl) ?_
    refine zn ?_
    refine AT_condS (a0 == 0) (by kernel_rfl) (fun hc12 => ?_) (fun hc12 => ?_)
    · rw [if_t hc12] at h
      refine zkn ?_
      exact ⟨k2, (by omega), a0 == 0, (le_rf (by kernel_rfl)), h, hh⟩
    rw [if_f hc12] at h
    refine AT_region ?_
    refine seg 2 [4, 5, 20, 21] [(21, bo (a0 == 1))] [] (by kernel_rfl) (by kernel_rfl) ?_
    refine zn ?_
    exact ⟨k2, (by omega), a0 == 1, (le_rf (by kernel_rfl)), h, hh⟩
  clear h hh
  rintro sl_ S_ ⟨k', hk_, x3, hl_, h, hh⟩
  refine AT_weaken hl_ ?_
  obtain _ | k3 := k'
  · cases h
  rw [cell_Compare.j1] at h
  refine AT_condS x3 (by kernel_rfl) (fun hc13 => ?_) (fun hc13 => ?_)
  · rw [if_t hc13] at h
    refine zsr ?_
    refine seg 4 [25, 27] [(25, i64 a1.Int), (27, i64 a2.Int)] [4, 5] (by kernel_rfl) (by kernel_rfl) ?_
    obtain ⟨v1, ht1, h⟩ := bs h
    refine AOps_callR _ [i64 a1.Int, i64 a2.Int] (tl_get rfl) rfl rfl rfl rfl Try.func54 (by decide) rfl ((.cons (D.le.refl _) (.cons (D.le.refl _) (.nil)))) (cmp_Compare_int.ok a1.Int a2.Int _  _ ht1) ?_
    rintro _ S_ ⟨rfl, h2_⟩
    replace hh := hh.call0 h2_
    refine fg [28] ?_
    refine seg 1 [6] [(6, i64 v1)] [] (by kernel_rfl) (by kernel_rfl) ?_
    refine zn ?_
    refine AT_ret ?_
    refine ablock_r ?_
    refine athen_r ?_
    have e_ := Option.some.inj h
    subst e_
    exact ⟨[i64 v1], _, S_, (.of (by kernel_rfl)), D.le.refl _, Store.le.refl _, rfl, hh⟩
  rw [if_f hc13] at h
  refine zsr ?_
  refine seg 2 [4, 5, 20, 29] [(29, bo (a0 == 2))] [] (by kernel_rfl) (by kernel_rfl) ?_
  refine zn ?_
  refine AT_condS (a0 == 2) (by kernel_rfl) (fun hc14 => ?_) (fun hc14 => ?_)
  · rw [if_t hc14] at h
    refine zsr ?_
    refine seg 4 [32, 34] [(32, str a1.Text), (34, str a2.Text)] [4, 5] (by kernel_rfl) (by kernel_rfl) ?_
    obtain ⟨v2, ht2, h⟩ := bs h
    refine AOps_callR _ [str a1.Text, str a2.Text] (tl_get rfl) rfl rfl rfl rfl Try.func55 (by decide) rfl ((.cons (D.le.refl _) (.cons (D.le.refl _) (.nil)))) (strings_Compare.ok a1.Text a2.Text _  _ ht2) ?_
    rintro _ S_ ⟨rfl, h2_⟩
    replace hh := hh.call0 h2_
    refine fg [35] ?_
    refine seg 1 [6] [(6, i64 v2)] [] (by kernel_rfl) (by kernel_rfl) ?_
    refine zn ?_
    refine AT_ret ?_
    refine ablock_r ?_
    refine athen_r ?_
    have e_ := Option.some.inj h
    subst e_
    exact ⟨[i64 v2], _, S_, (.of (by kernel_rfl)), D.le.refl _, Store.le.refl _, rfl, hh⟩
  rw [if_f hc14] at h
  refine zsr ?_
  refine seg 2 [4, 5, 36] [(36, bo (a0 == 3))] [] (by kernel_rfl) (by kernel_rfl) ?_
  refine zn ?_
  refine AT_condR (a0 == 3) (by kernel_rfl) (fun hc15 => ?_) (fun hc15 => ?_)
  · rw [if_f hc15] at h
    refine AT_skip ?_
    refine ablock_n ?_
    refine athen_n ?_
    refine zsr ?_
    refine seg 1 [6] [(6, i64 0)] [] (by kernel_rfl) (by kernel_rfl) ?_
    refine zn ?_
    refine AT_ret ?_
    have e_ := Option.some.inj h
    subst e_
    exact ⟨[i64 0], _, S_, (.of (by kernel_rfl)), D.le.refl _, Store.le.refl _, rfl, hh⟩
  rw [if_t hc15] at h
  refine zsr ?_
  refine seg 4 [39, 41] [(39, .ag (Point.enc a1.At)), (41, .ag (Point.enc a2.At))] [4, 5] (by kernel_rfl) (by kernel_rfl) ?_
  obtain ⟨v3, ht3, h⟩ := bs h
  refine AOps_callR _ [.ag (Point.enc a1.At), .ag (Point.enc a2.At)] (tl_get rfl) rfl rfl rfl rfl Try.func56 (by decide) rfl ((.cons (D.le.refl _) (.cons (D.le.refl _) (.nil)))) (point_Compare.ok _ a1.At a2.At _  _ ht3) ?_
  rintro _ S_ ⟨rfl, h2_⟩
  replace hh := hh.call0 h2_
  refine fg [42] ?_
  refine seg 1 [6] [(6, i64 v3)] [] (by kernel_rfl) (by kernel_rfl) ?_
  refine zn ?_
  refine AT_ret ?_
  refine ablock_r ?_
  refine athen_r ?_
  have e_ := Option.some.inj h
  subst e_
  exact ⟨[i64 v3], _, S_, (.of (by kernel_rfl)), D.le.refl _, Store.le.refl _, rfl, hh⟩
def stat_Right.j0 : Nat → Int → Stat → Bool → Option (Bool)
  | 0, _, _, _ => none
  | k + 1, a0, a1, x1 => if (!a1.Has) = true then (if x1 = true then (if ((a1.Min.Null == false) && ((a1.Min.Int == 0) && ((a1.Min.Text == []) && (((a1.Min.At.X == 0) && ((a1.Min.At.Y == 0) && true)) && true)))) = true then (some ((a1.Max.Null == false) && ((a1.Max.Int == 0) && ((a1.Max.Text == []) && (((a1.Max.At.X == 0) && ((a1.Max.At.Y == 0) && true)) && true))))) else (some false)) else (some false)) else (if x1 = true then ((cell_Right.f k a1.Min (⟨[], a0, false⟩ : Col)).bind fun v1 => (if v1 = true then ((cell_Right.f k a1.Max (⟨[], a0, false⟩ : Col)).bind fun v2 => (if v2 = true then ((cell_Compare.f k a0 a1.Min a1.Max).bind fun v3 => (some (decide (v3 ≤ 0)))) else (some false))) else (some false))) else (some false))
def stat_Right.f (k : Nat) (a0 : Int) (a1 : Stat) : Option (Bool) := if (decide (a0 ≥ 0)) = true then (if (decide (a0 ≤ 3)) = true then (if (decide (a1.Nulls ≥ 0)) = true then (stat_Right.j0 k a0 a1 (decide (a1.Nulls ≤ 65536))) else (stat_Right.j0 k a0 a1 false)) else (stat_Right.j0 k a0 a1 false)) else (stat_Right.j0 k a0 a1 false)
theorem stat_Right.mono_l : ∀ k, (∀ y0 y1 y2, LeO (stat_Right.j0 k y0 y1 y2) (stat_Right.j0 (k + 1) y0 y1 y2))
  | 0 => fun _ _ _ r h => (by simp only [stat_Right.j0] at h; cases h)
  | k + 1 => by
    have ih := stat_Right.mono_l k
    · intro y0 y1 y2
      rw [stat_Right.j0, stat_Right.j0]
      repeat' first
        | exact LeO.refl _
        | exact LeO.none _
        | exact ih _ _ _
        | exact cell_Compare.mono _ _ _ _
        | exact cell_Right.mono _ _ _
        | refine LeO.ite ?_ ?_
        | refine LeO.bind ?_ (fun _ => ?_)
theorem stat_Right.mono (k : Nat) (a0 : Int) (a1 : Stat) : LeO (stat_Right.f k a0 a1) (stat_Right.f (k + 1) a0 a1) := by
  unfold stat_Right.f
  repeat' first
    | exact LeO.refl _
    | exact LeO.none _
    | exact (stat_Right.mono_l k) _ _ _
    | exact cell_Compare.mono _ _ _ _
    | exact cell_Right.mono _ _ _
    | refine LeO.ite ?_ ?_
    | refine LeO.bind ?_ (fun _ => ?_)
theorem stat_Right.ok (k : Nat) (a0 : Int) (a1 : Stat) (S : Store) (r : Bool) (h : stat_Right.f k a0 a1 = some r) : ACalls Try.prog 32 [i64 a0, .ag (Stat.enc a1)] S (fun r_ S_ => r_ = bo r ∧ Own S [] S_ []) := by
  unfold stat_Right.f at h
  refine acalls_of Try.func32 rfl ?_
  have hh := Own.nil (S := S)
  refine AT_forget 0x3 (mkS 63 [(0, i64 a0), (1, .ag (Stat.enc a1))]) (by kernel_rfl) ?_
  refine zsr ?_
  refine AOps_box_im (ds := (Stat.enc a1)) (tl_get rfl) rfl rfl (by kernel_rfl) ?_
  refine fg [0, 3] ?_
  refine seg 1 [0, 3] [] [] (by kernel_rfl) (by kernel_rfl) ?_
  refine znsr ?_
  refine seg 2 [0, 3, 8] [(8, .ag [str [], i64 a0, bo false])] [2, 3] (by kernel_rfl) (by kernel_rfl) ?_
  refine AOps_newvar (zs := [str [], i64 0, bo false]) (ds := [str [], i64 a0, bo false]) (d := 5) (tl_get rfl) rfl rfl rfl (by kernel_rfl) (by kernel_rfl) (tl_get rfl) (fun _ => rfl) rfl rfl (fun _ => rfl) rfl (by kernel_rfl) (by kernel_rfl) ?_
  refine AOps_forget 0x29 (mkS 63 [(0, i64 a0), (3, .pt (Stat.enc a1)), (5, .pt [str [], i64 a0, bo false])]) (by kernel_rfl) ?_
  refine zn ?_
  refine AT_cutM 0x69 (fun sl_ S_ => ∃ (k_ : Nat), k_ ≤ k ∧ ∃ (x1 : Bool), LeL sl_ (mkS 63 [(0, i64 a0), (3, .pt (Stat.enc a1)), (5, .pt [str [], i64 a0, bo false]), (6, bo x1)]) ∧ stat_Right.j0 k_ a0 a1 x1 = some r ∧ Own S [] S_ []) ?_ ?_
  · refine AT_region ?_
    refine seg 3 [0, 3, 5, 11] [(11, bo (decide (a0 ≥ 0)))] [3, 4, 5, 6, 7, 8, 9, 10, 11, 12, 13, 14, 15, 16] (by kernel_rfl) (by kernel_rfl) ?_
    refine casedR 11 (decide (a0 ≥ 0)) (by kernel_rfl) (fun hc4 => ?_) (fun hc4 => ?_)
    · rw [if_f hc4] at h
      refine seg 14 [0, 3, 5, 6] [(6, bo false)] [] (by kernel_rfl) (by kernel_rfl) ?_
      refine zn ?_
      exact ⟨k, (by omega), false, (le_rf (by kernel_rfl)), h, hh⟩
    rw [if_t hc4] at h
    refine seg 4 [0, 3, 5, 15] [(15, bo (decide (a0 ≤ 3)))] [7, 8, 9, 10, 11, 12, 13, 14, 15, 16] (by kernel_rfl) (by kernel_rfl) ?_
    refine casedR 15 (decide (a0 ≤ 3)) (by kernel_rfl) (fun hc5 => ?_) (fun hc5 => ?_)
    · rw [if_f hc5] at h
      refine seg 10 [0, 3, 5, 6] [(6, bo false)] [] (by kernel_rfl) (by kernel_rfl) ?_
      refine zn ?_
      exact ⟨k, (by omega), false, (le_rf (by kernel_rfl)), h, hh⟩
    rw [if_t hc5] at h
    refine seg 5 [0, 3, 5, 20] [(20, bo (decide (a1.Nulls ≥ 0)))] [12, 13, 14, 15, 16] (by kernel_rfl) (by kernel_rfl) ?_
    refine cased 20 (decide (a1.Nulls ≥ 0)) (by kernel_rfl) (fun hc6 => ?_) (fun hc6 => ?_)
    · rw [if_t hc6] at h
      refine seg 5 [0, 3, 5, 6] [(6, bo (decide (a1.Nulls ≤ 65536)))] [] (by kernel_rfl) (by kernel_rfl) ?_
      refine zn ?_
      exact ⟨k, (by omega), decide (a1.Nulls ≤ 65536), (le_rf (by kernel_rfl)), h, hh⟩
    rw [if_f hc6] at h
    refine seg 5 [0, 3, 5, 6] [(6, bo false)] [] (by kernel_rfl) (by kernel_rfl) ?_
    refine zn ?_
    exact ⟨k, (by omega), false, (le_rf (by kernel_rfl)), h, hh⟩
  clear h hh
  rintro sl_ S_ ⟨k', hk_, x1, hl_, h, hh⟩
  refine AT_weaken hl_ ?_
  obtain _ | k1 := k'
  · cases h
  rw [stat_Right.j0] at h
  refine AT_seq ?_
  refine zsr ?_
  refine seg 3 [0, 3, 5, 6, 27] [(27, bo (!a1.Has))] [] (by kernel_rfl) (by kernel_rfl) ?_
  refine zn ?_
  refine AT_condS (!a1.Has) (by kernel_rfl) (fun hc7 => ?_) (fun hc7 => ?_)
  · rw [if_t hc7] at h
    refine zsr ?_
    refine seg 2 [3, 29] [(29, bo x1)] [2, 3, 4, 5, 6, 7, 8, 9, 10, 11, 12, 13] (by kernel_rfl) (by kernel_rfl) ?_
    refine casedR 29 x1 (by kernel_rfl) (fun hc8 => ?_) (fun hc8 => ?_)
    · rw [if_f hc8] at h
      refine seg 12 [4] [(4, bo false)] [] (by kernel_rfl) (by kernel_rfl) ?_
      refine zn ?_
      refine AT_ret ?_
      refine athen_r ?_
      have e_ := Option.some.inj h
      subst e_
      exact ⟨[bo false], _, S_, (.of (by kernel_rfl)), D.le.refl _, Store.le.refl _, rfl, hh⟩
    rw [if_t hc8] at h
    refine seg 6 [3, 35] [(35, bo ((a1.Min.Null == false) && ((a1.Min.Int == 0) && ((a1.Min.Text == []) && (((a1.Min.At.X == 0) && ((a1.Min.At.Y == 0) && true)) && true)))))] [8, 9, 10, 11, 12, 13] (by kernel_rfl) (by kernel_rfl) ?_
    refine cased 35 ((a1.Min.Null == false) && ((a1.Min.Int == 0) && ((a1.Min.Text == []) && (((a1.Min.At.X == 0) && ((a1.Min.At.Y == 0) && true)) && true)))) (by kernel_rfl) (fun hc9 => ?_) (fun hc9 => ?_)
    · rw [if_t hc9] at h
      refine seg 6 [4] [(4, bo ((a1.Max.Null == false) && ((a1.Max.Int == 0) && ((a1.Max.Text == []) && (((a1.Max.At.X == 0) && ((a1.Max.At.Y == 0) && true)) && true)))))] [] (by kernel_rfl) (by kernel_rfl) ?_
      refine zn ?_
      refine AT_ret ?_
      refine athen_r ?_
      have e_ := Option.some.inj h
      subst e_
      exact ⟨[bo ((a1.Max.Null == false) && ((a1.Max.Int == 0) && ((a1.Max.Text == []) && (((a1.Max.At.X == 0) && ((a1.Max.At.Y == 0) && true)) && true))))], _, S_, (.of (by kernel_rfl)), D.le.refl _, Store.le.refl _, rfl, hh⟩
    rw [if_f hc9] at h
    refine seg 6 [4] [(4, bo false)] [] (by kernel_rfl) (by kernel_rfl) ?_
    refine zn ?_
    refine AT_ret ?_
    refine athen_r ?_
    have e_ := Option.some.inj h
    subst e_
    exact ⟨[bo false], _, S_, (.of (by kernel_rfl)), D.le.refl _, Store.le.refl _, rfl, hh⟩
  rw [if_f hc7] at h
  refine zkn ?_
  refine zsr ?_
  refine seg 2 [0, 3, 5, 42] [(42, bo x1)] [2, 3, 4, 5, 6, 7, 8, 9, 10, 11, 12, 13, 14, 15, 16, 17, 18, 19, 20, 21, 22] (by kernel_rfl) (by kernel_rfl) ?_
  refine casedR 42 x1 (by kernel_rfl) (fun hc10 => ?_) (fun hc10 => ?_)
  · rw [if_f hc10] at h
    refine seg 21 [4] [(4, bo false)] [] (by kernel_rfl) (by kernel_rfl) ?_
    refine zn ?_
    refine AT_ret ?_
    have e_ := Option.some.inj h
    subst e_
    exact ⟨[bo false], _, S_, (.of (by kernel_rfl)), D.le.refl _, Store.le.refl _, rfl, hh⟩
  rw [if_t hc10] at h
  refine seg 3 [0, 3, 5, 42, 44, 45] [(44, .ag (Cell.enc a1.Min)), (45, .ag [str [], i64 a0, bo false])] [5, 6, 7, 8, 9, 10, 11, 12, 13, 14, 15, 16, 17, 18, 19, 20, 21, 22] (by kernel_rfl) (by kernel_rfl) ?_
  obtain ⟨v1, ht1, h⟩ := bs h
  refine AOps_callR _ [.ag (Cell.enc a1.Min), .ag (Col.enc (⟨[], a0, false⟩ : Col))] (tl_get rfl) rfl rfl rfl rfl Try.func42 (by decide) rfl ((.cons (D.le.refl _) (.cons (D.le.refl _) (.nil)))) (cell_Right.ok _ a1.Min (⟨[], a0, false⟩ : Col) _  _ ht1) ?_
  rintro _ S_ ⟨rfl, h2_⟩
  replace hh := hh.call0 h2_
  refine fg [0, 3, 5, 42, 46] ?_
  refine seg 2 [0, 3, 5, 48] [(48, bo v1)] [8, 9, 10, 11, 12, 13, 14, 15, 16, 17, 18, 19, 20, 21, 22] (by kernel_rfl) (by kernel_rfl) ?_
  refine casedR 48 v1 (by kernel_rfl) (fun hc11 => ?_) (fun hc11 => ?_)
  · rw [if_f hc11] at h
    refine seg 15 [4] [(4, bo false)] [] (by kernel_rfl) (by kernel_rfl) ?_
    refine zn ?_
    refine AT_ret ?_
    have e_ := Option.some.inj h
    subst e_
    exact ⟨[bo false], _, S_, (.of (by kernel_rfl)), D.le.refl _, Store.le.refl _, rfl, hh⟩
  rw [if_t hc11] at h
  refine seg 3 [0, 3, 48, 50, 51] [(50, .ag (Cell.enc a1.Max)), (51, .ag [str [], i64 a0, bo false])] [11, 12, 13, 14, 15, 16, 17, 18, 19, 20, 21, 22] (by kernel_rfl) (by kernel_rfl) ?_
  obtain ⟨v2, ht2, h⟩ := bs h
  refine AOps_callR _ [.ag (Cell.enc a1.Max), .ag (Col.enc (⟨[], a0, false⟩ : Col))] (tl_get rfl) rfl rfl rfl rfl Try.func42 (by decide) rfl ((.cons (D.le.refl _) (.cons (D.le.refl _) (.nil)))) (cell_Right.ok _ a1.Max (⟨[], a0, false⟩ : Col) _  _ ht2) ?_
  rintro _ S_ ⟨rfl, h2_⟩
  replace hh := hh.call0 h2_
  refine fg [0, 3, 48, 52] ?_
  refine seg 2 [0, 3, 54] [(54, bo v2)] [14, 15, 16, 17, 18, 19, 20, 21, 22] (by kernel_rfl) (by kernel_rfl) ?_
  refine casedR 54 v2 (by kernel_rfl) (fun hc12 => ?_) (fun hc12 => ?_)
  · rw [if_f hc12] at h
    refine AOps_seg 9 0x10 (mkS 63 [(4, bo false)]) none [] (by kernel_rfl) (by kernel_rfl) trivial ?_
    refine zn ?_
    refine AT_ret ?_
    have e_ := Option.some.inj h
    subst e_
    exact ⟨[bo false], _, S_, (.of (by kernel_rfl)), D.le.refl _, Store.le.refl _, rfl, hh⟩
  rw [if_t hc12] at h
  refine AOps_seg 5 0xac0000000000000 (mkS 63 [(54, bo true), (55, i64 a0), (57, .ag (Cell.enc a1.Min)), (59, .ag (Cell.enc a1.Max))]) none [19, 20, 21, 22] (by kernel_rfl) (by kernel_rfl) trivial ?_
  obtain ⟨v3, ht3, h⟩ := bs h
  refine AOps_callR _ [i64 a0, .ag (Cell.enc a1.Min), .ag (Cell.enc a1.Max)] (tl_get rfl) rfl rfl rfl rfl Try.func43 (by decide) rfl ((.cons (D.le.refl _) (.cons (D.le.refl _) (.cons (D.le.refl _) (.nil))))) (cell_Compare.ok _ a0 a1.Min a1.Max _  _ ht3) ?_
  rintro _ S_ ⟨rfl, h2_⟩
  replace hh := hh.call0 h2_
  refine fg [54, 60] ?_
  refine seg 3 [4] [(4, bo (decide (v3 ≤ 0)))] [] (by kernel_rfl) (by kernel_rfl) ?_
  refine zn ?_
  refine AT_ret ?_
  have e_ := Option.some.inj h
  subst e_
  exact ⟨[bo (decide (v3 ≤ 0))], _, S_, (.of (by kernel_rfl)), D.le.refl _, Store.le.refl _, rfl, hh⟩
mutual
def footer_page.j1 : Nat → Col → PageInfo → Bool → Option (Bool)
  | 0, _, _, _ => none
  | k + 1, a0, a1, x2 => if x2 = true then (some false) else (if (decide (a1.Stat.Nulls > a1.Rows)) = true then (some false) else (if (!(a1.Stat.Has == (decide (a1.Stat.Nulls < a1.Rows)))) = true then (some false) else (if (decide (a1.Stat.Nulls > 0)) = true then (if (!a0.Nullable) = true then (some false) else (footer_page.j0 k a0 a1)) else (footer_page.j0 k a0 a1))))
def footer_page.j0 : Nat → Col → PageInfo → Option (Bool)
  | 0, _, _ => none
  | k + 1, a0, a1 => (stat_Right.f k a0.Type_ a1.Stat).bind fun v1 => (some v1)
end
def footer_page.f (k : Nat) (a0 : Col) (a1 : PageInfo) : Option (Bool) := if (decide (a1.Rows < 1)) = true then (footer_page.j1 k a0 a1 true) else (if (decide (a1.Rows > 65536)) = true then (footer_page.j1 k a0 a1 true) else (if (decide (a1.Size < 1)) = true then (footer_page.j1 k a0 a1 true) else (footer_page.j1 k a0 a1 (decide (a1.Size > 268435456)))))
theorem footer_page.mono_l : ∀ k, (∀ y0 y1 y2, LeO (footer_page.j1 k y0 y1 y2) (footer_page.j1 (k + 1) y0 y1 y2)) ∧ (∀ y0 y1, LeO (footer_page.j0 k y0 y1) (footer_page.j0 (k + 1) y0 y1))
  | 0 => ⟨fun _ _ _ r h => (by simp only [footer_page.j1] at h; cases h), fun _ _ r h => (by simp only [footer_page.j0] at h; cases h)⟩
  | k + 1 => by
    have ih := footer_page.mono_l k
    refine ⟨?_, ?_⟩
    · intro y0 y1 y2
      rw [footer_page.j1, footer_page.j1]
      repeat' first
        | exact LeO.refl _
        | exact LeO.none _
        | exact ih.1 _ _ _
        | exact ih.2 _ _
        | exact stat_Right.mono _ _ _
        | refine LeO.ite ?_ ?_
        | refine LeO.bind ?_ (fun _ => ?_)
    · intro y0 y1
      rw [footer_page.j0, footer_page.j0]
      repeat' first
        | exact LeO.refl _
        | exact LeO.none _
        | exact ih.1 _ _ _
        | exact ih.2 _ _
        | exact stat_Right.mono _ _ _
        | refine LeO.ite ?_ ?_
        | refine LeO.bind ?_ (fun _ => ?_)
theorem footer_page.mono (k : Nat) (a0 : Col) (a1 : PageInfo) : LeO (footer_page.f k a0 a1) (footer_page.f (k + 1) a0 a1) := by
  unfold footer_page.f
  repeat' first
    | exact LeO.refl _
    | exact LeO.none _
    | exact (footer_page.mono_l k).1 _ _ _
    | exact (footer_page.mono_l k).2 _ _
    | exact stat_Right.mono _ _ _
    | refine LeO.ite ?_ ?_
    | refine LeO.bind ?_ (fun _ => ?_)
theorem footer_page.ok (k : Nat) (a0 : Col) (a1 : PageInfo) (S : Store) (r : Bool) (h : footer_page.f k a0 a1 = some r) : ACalls Try.prog 27 [.ag (Col.enc a0), .ag (PageInfo.enc a1)] S (fun r_ S_ => r_ = bo r ∧ Own S [] S_ []) := by
  unfold footer_page.f at h
  refine acalls_of Try.func27 rfl ?_
  have hh := Own.nil (S := S)
  refine AT_forget 0x3 (mkS 59 [(0, .ag (Col.enc a0)), (1, .ag (PageInfo.enc a1))]) (by kernel_rfl) ?_
  refine zsr ?_
  refine AOps_box_im (ds := (Col.enc a0)) (tl_get rfl) rfl rfl (by kernel_rfl) ?_
  refine fg [1, 2] ?_
  refine AOps_box_im (ds := (PageInfo.enc a1)) (tl_get rfl) rfl rfl (by kernel_rfl) ?_
  refine fg [2, 3] ?_
  refine seg 1 [2, 3] [] [] (by kernel_rfl) (by kernel_rfl) ?_
  refine zn ?_
  refine AT_cutM 0xc (fun sl_ S_ => ∃ (k_ : Nat), k_ ≤ k ∧ LeL sl_ (mkS 59 [(2, .pt (Col.enc a0)), (3, .pt (PageInfo.enc a1))]) ∧ footer_page.j0 k_ a0 a1 = some r ∧ Own S [] S_ []) ?_ ?_
  · refine AT_block ?_
    refine AT_cutM 0x2c (fun sl_ S_ => ∃ (k_ : Nat), k_ ≤ k ∧ ∃ (x2 : Bool), LeL sl_ (mkS 59 [(2, .pt (Col.enc a0)), (3, .pt (PageInfo.enc a1)), (5, bo x2)]) ∧ footer_page.j1 k_ a0 a1 x2 = some r ∧ Own S [] S_ []) ?_ ?_
    · refine AT_region ?_
      refine seg 4 [2, 3, 9] [(9, bo (decide (a1.Rows < 1)))] [4, 5, 6, 7, 8, 9, 10, 11, 12, 13, 14, 15, 16, 17, 18] (by kernel_rfl) (by kernel_rfl) ?_
      refine cased 9 (decide (a1.Rows < 1)) (by kernel_rfl) (fun hc15 => ?_) (fun hc15 => ?_)
      · rw [if_t hc15] at h
        refine seg 15 [2, 3, 5] [(5, bo true)] [] (by kernel_rfl) (by kernel_rfl) ?_
        refine zn ?_
        exact ⟨k, (by omega), true, (le_rf (by kernel_rfl)), h, hh⟩
      rw [if_f hc15] at h
      refine seg 5 [2, 3, 14] [(14, bo (decide (a1.Rows > 65536)))] [9, 10, 11, 12, 13, 14, 15, 16, 17, 18] (by kernel_rfl) (by kernel_rfl) ?_
      refine cased 14 (decide (a1.Rows > 65536)) (by kernel_rfl) (fun hc16 => ?_) (fun hc16 => ?_)
      · rw [if_t hc16] at h
        refine seg 10 [2, 3, 5] [(5, bo true)] [] (by kernel_rfl) (by kernel_rfl) ?_
        refine zn ?_
        exact ⟨k, (by omega), true, (le_rf (by kernel_rfl)), h, hh⟩
      rw [if_f hc16] at h
      refine seg 5 [2, 3, 19] [(19, bo (decide (a1.Size < 1)))] [14, 15, 16, 17, 18] (by kernel_rfl) (by kernel_rfl) ?_
      refine cased 19 (decide (a1.Size < 1)) (by kernel_rfl) (fun hc17 => ?_) (fun hc17 => ?_)
      · rw [if_t hc17] at h
        refine seg 5 [2, 3, 5] [(5, bo true)] [] (by kernel_rfl) (by kernel_rfl) ?_
        refine zn ?_
        exact ⟨k, (by omega), true, (le_rf (by kernel_rfl)), h, hh⟩
      rw [if_f hc17] at h
      refine seg 5 [2, 3, 5] [(5, bo (decide (a1.Size > 268435456)))] [] (by kernel_rfl) (by kernel_rfl) ?_
      refine zn ?_
      exact ⟨k, (by omega), decide (a1.Size > 268435456), (le_rf (by kernel_rfl)), h, hh⟩
    clear h hh
    rintro sl_ S_ ⟨k', hk_, x2, hl_, h, hh⟩
    refine AT_weaken hl_ ?_
    obtain _ | k2 := k'
    · cases h
    rw [footer_page.j1] at h
    refine AT_condS x2 (by kernel_rfl) (fun hc18 => ?_) (fun hc18 => ?_)
    · rw [if_t hc18] at h
      refine zsr ?_
      refine seg 1 [4] [(4, bo false)] [] (by kernel_rfl) (by kernel_rfl) ?_
      refine zn ?_
      refine AT_ret ?_
      refine ablock_r ?_
      refine athen_r ?_
      have e_ := Option.some.inj h
      subst e_
      exact ⟨[bo false], _, S_, (.of (by kernel_rfl)), D.le.refl _, Store.le.refl _, rfl, hh⟩
    rw [if_f hc18] at h
    refine zsr ?_
    refine seg 7 [2, 3, 31] [(31, bo (decide (a1.Stat.Nulls > a1.Rows)))] [7, 8, 9, 10, 11, 12, 13, 14, 15, 16, 17, 18, 19, 20, 21, 22, 23, 24, 25, 26, 27, 28, 29] (by kernel_rfl) (by kernel_rfl) ?_
    refine cased 31 (decide (a1.Stat.Nulls > a1.Rows)) (by kernel_rfl) (fun hc19 => ?_) (fun hc19 => ?_)
    · rw [if_t hc19] at h
      refine seg 23 [2, 3, 24] [(24, bo true)] [] (by kernel_rfl) (by kernel_rfl) ?_
      refine zn ?_
      refine AT_cond_t (by kernel_rfl) ?_
      refine zsr ?_
      refine seg 1 [4] [(4, bo false)] [] (by kernel_rfl) (by kernel_rfl) ?_
      refine zn ?_
      refine AT_ret ?_
      refine ablock_r ?_
      refine athen_r ?_
      have e_ := Option.some.inj h
      subst e_
      exact ⟨[bo false], _, S_, (.of (by kernel_rfl)), D.le.refl _, Store.le.refl _, rfl, hh⟩
    rw [if_f hc19] at h
    refine seg 12 [2, 3, 43] [(43, bo (!(a1.Stat.Has == (decide (a1.Stat.Nulls < a1.Rows)))))] [19, 20, 21, 22, 23, 24, 25, 26, 27, 28, 29] (by kernel_rfl) (by kernel_rfl) ?_
    refine cased 43 (!(a1.Stat.Has == (decide (a1.Stat.Nulls < a1.Rows)))) (by kernel_rfl) (fun hc20 => ?_) (fun hc20 => ?_)
    · rw [if_t hc20] at h
      refine seg 11 [2, 3, 24] [(24, bo true)] [] (by kernel_rfl) (by kernel_rfl) ?_
      refine zn ?_
      refine AT_cond_t (by kernel_rfl) ?_
      refine zsr ?_
      refine seg 1 [4] [(4, bo false)] [] (by kernel_rfl) (by kernel_rfl) ?_
      refine zn ?_
      refine AT_ret ?_
      refine ablock_r ?_
      refine athen_r ?_
      have e_ := Option.some.inj h
      subst e_
      exact ⟨[bo false], _, S_, (.of (by kernel_rfl)), D.le.refl _, Store.le.refl _, rfl, hh⟩
    rw [if_f hc20] at h
    refine seg 5 [2, 3, 43, 48] [(48, bo (decide (a1.Stat.Nulls > 0)))] [24, 25, 26, 27, 28, 29] (by kernel_rfl) (by kernel_rfl) ?_
    refine casedR 48 (decide (a1.Stat.Nulls > 0)) (by kernel_rfl) (fun hc21 => ?_) (fun hc21 => ?_)
    · rw [if_f hc21] at h
      refine seg 6 [2, 3, 24] [(24, bo false)] [] (by kernel_rfl) (by kernel_rfl) ?_
      refine zn ?_
      refine AT_cond_f (by kernel_rfl) ?_
      refine AT_skip ?_
      refine ablock_n ?_
      refine athen_n ?_
      exact ⟨k2, (by omega), (le_rf (by kernel_rfl)), h, hh⟩
    rw [if_t hc21] at h
    refine seg 6 [2, 3, 24] [(24, bo (!a0.Nullable))] [] (by kernel_rfl) (by kernel_rfl) ?_
    refine zn ?_
    refine AT_condR (!a0.Nullable) (by kernel_rfl) (fun hc22 => ?_) (fun hc22 => ?_)
    · rw [if_f hc22] at h
      refine AT_skip ?_
      refine ablock_n ?_
      refine athen_n ?_
      exact ⟨k2, (by omega), (le_rf (by kernel_rfl)), h, hh⟩
    rw [if_t hc22] at h
    refine zsr ?_
    refine seg 1 [4] [(4, bo false)] [] (by kernel_rfl) (by kernel_rfl) ?_
    refine zn ?_
    refine AT_ret ?_
    refine ablock_r ?_
    refine athen_r ?_
    have e_ := Option.some.inj h
    subst e_
    exact ⟨[bo false], _, S_, (.of (by kernel_rfl)), D.le.refl _, Store.le.refl _, rfl, hh⟩
  clear h hh
  rintro sl_ S_ ⟨k', hk_, hl_, h, hh⟩
  refine AT_weaken hl_ ?_
  obtain _ | k3 := k'
  · cases h
  rw [footer_page.j0] at h
  refine zsr ?_
  refine seg 4 [55, 57] [(55, i64 a0.Type_), (57, .ag (Stat.enc a1.Stat))] [4, 5] (by kernel_rfl) (by kernel_rfl) ?_
  obtain ⟨v1, ht1, h⟩ := bs h
  refine AOps_callR _ [i64 a0.Type_, .ag (Stat.enc a1.Stat)] (tl_get rfl) rfl rfl rfl rfl Try.func32 (by decide) rfl ((.cons (D.le.refl _) (.cons (D.le.refl _) (.nil)))) (stat_Right.ok _ a0.Type_ a1.Stat _  _ ht1) ?_
  rintro _ S_ ⟨rfl, h2_⟩
  replace hh := hh.call0 h2_
  refine fg [58] ?_
  refine seg 1 [4] [(4, bo v1)] [] (by kernel_rfl) (by kernel_rfl) ?_
  refine zn ?_
  refine AT_ret ?_
  have e_ := Option.some.inj h
  subst e_
  exact ⟨[bo v1], _, S_, (.of (by kernel_rfl)), D.le.refl _, Store.le.refl _, rfl, hh⟩
end Go.Proofs.Ytfaojkajlpojlaa.Abs
