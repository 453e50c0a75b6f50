/- What functions of the program compute, each with the proof that it does (printed by wip/gen/all2.py). -/
import Derived.Test.YtfaojkajlpojlaaV15
import Derived.KernelRfl
namespace Go.Proofs.Ytfaojkajlpojlaa.Abs
open Go
set_option maxRecDepth 100000
mutual
def law19_Few.l3 : Nat → Footer → Int → Int → Int → Int → Option (Bool)
  | 0, _, _, _, _, _ => none
  | k + 1, a0, x4, x6, x7, x8 => if (decide (x8 < ((rd ((rd a0.Groups x4 Group.zero).Chunks) x6 []).length : Int))) = true then (if 0 ≤ x8 ∧ x8 < ((rd ((rd a0.Groups x4 Group.zero).Chunks) x6 []).length : Int) then (if 0 ≤ x8 ∧ x8 < ((rd ((rd a0.Groups x4 Group.zero).Chunks) x6 []).length : Int) then (law19_Few.l3 k a0 x4 x6 (IntKind.wrap .i64 ((IntKind.wrap .i64 ((IntKind.wrap .i64 (x7 + 10)) + (((((rd (rd ((rd a0.Groups x4 Group.zero).Chunks) x6 []) x8 PageInfo.zero).Stat).Min).Text).length : Int))) + (((((rd (rd ((rd a0.Groups x4 Group.zero).Chunks) x6 []) x8 PageInfo.zero).Stat).Max).Text).length : Int))) (IntKind.wrap .i64 (x8 + 1))) else none) else none) else (law19_Few.l2 k a0 x4 x7 (IntKind.wrap .i64 (x6 + 1)))
def law19_Few.l2 : Nat → Footer → Int → Int → Int → Option (Bool)
  | 0, _, _, _, _ => none
  | k + 1, a0, x4, x5, x6 => if 0 ≤ x4 ∧ x4 < (a0.Groups.length : Int) then (if (decide (x6 < (((rd a0.Groups x4 Group.zero).Chunks).length : Int))) = true then (if 0 ≤ x4 ∧ x4 < (a0.Groups.length : Int) then (if 0 ≤ x6 ∧ x6 < (((rd a0.Groups x4 Group.zero).Chunks).length : Int) then (law19_Few.l3 k a0 x4 x6 (IntKind.wrap .i64 (x5 + 5)) 0) else none) else none) else (law19_Few.l1 k a0 x5 (IntKind.wrap .i64 (x4 + 1)))) else none
def law19_Few.l1 : Nat → Footer → Int → Int → Option (Bool)
  | 0, _, _, _ => none
  | k + 1, a0, x3, x4 => if (decide (x4 < (a0.Groups.length : Int))) = true then (law19_Few.l2 k a0 x4 (IntKind.wrap .i64 (x3 + 10)) 0) else (if (decide ((a0.Cols.length : Int) ≤ 70)) = true then (some (decide (x3 ≤ 4000))) else (some false))
def law19_Few.l0 : Nat → Footer → Int → Int → Option (Bool)
  | 0, _, _, _ => none
  | k + 1, a0, x1, x2 => if (decide (x2 < (a0.Cols.length : Int))) = true then (if 0 ≤ x2 ∧ x2 < (a0.Cols.length : Int) then (law19_Few.l0 k a0 (IntKind.wrap .i64 (x1 + (((rd a0.Cols x2 Col.zero).Name).length : Int))) (IntKind.wrap .i64 (x2 + 1))) else none) else (law19_Few.l1 k a0 x1 0)
end
def law19_Few.f (k : Nat) (a0 : Footer) : Option (Bool) := law19_Few.l0 k a0 0 0
theorem law19_Few.mono_l : ∀ k, (∀ y0 y1 y2 y3 y4, LeO (law19_Few.l3 k y0 y1 y2 y3 y4) (law19_Few.l3 (k + 1) y0 y1 y2 y3 y4)) ∧ (∀ y0 y1 y2 y3, LeO (law19_Few.l2 k y0 y1 y2 y3) (law19_Few.l2 (k + 1) y0 y1 y2 y3)) ∧ (∀ y0 y1 y2, LeO (law19_Few.l1 k y0 y1 y2) (law19_Few.l1 (k + 1) y0 y1 y2)) ∧ (∀ y0 y1 y2, LeO (law19_Few.l0 k y0 y1 y2) (law19_Few.l0 (k + 1) y0 y1 y2))
  | 0 => ⟨fun _ _ _ _ _ r h => (by simp only [law19_Few.l3] at h; cases h), fun _ _ _ _ r h => (by simp only [law19_Few.l2] at h; cases h), fun _ _ _ r h => (by simp only [law19_Few.l1] at h; cases h), fun _ _ _ r h => (by simp only [law19_Few.l0] at h; cases h)⟩
  | k + 1 => by
    have ih := law19_Few.mono_l k
    refine ⟨?_, ?_, ?_, ?_⟩
    · intro y0 y1 y2 y3 y4
      rw [law19_Few.l3, law19_Few.l3]
      repeat' first
        | exact LeO.refl _
        | exact LeO.none _
        | exact ih.1 _ _ _ _ _
        | exact ih.2.1 _ _ _ _
        | exact ih.2.2.1 _ _ _
        | exact ih.2.2.2 _ _ _
        | refine LeO.ite ?_ ?_
        | refine LeO.bind ?_ (fun _ => ?_)
    · intro y0 y1 y2 y3
      rw [law19_Few.l2, law19_Few.l2]
      repeat' first
        | exact LeO.refl _
        | exact LeO.none _
        | exact ih.1 _ _ _ _ _
        | exact ih.2.1 _ _ _ _
        | exact ih.2.2.1 _ _ _
        | exact ih.2.2.2 _ _ _
        | refine LeO.ite ?_ ?_
        | refine LeO.bind ?_ (fun _ => ?_)
    · intro y0 y1 y2
      rw [law19_Few.l1, law19_Few.l1]
      repeat' first
        | exact LeO.refl _
        | exact LeO.none _
        | exact ih.1 _ _ _ _ _
        | exact ih.2.1 _ _ _ _
        | exact ih.2.2.1 _ _ _
        | exact ih.2.2.2 _ _ _
        | refine LeO.ite ?_ ?_
        | refine LeO.bind ?_ (fun _ => ?_)
    · intro y0 y1 y2
      rw [law19_Few.l0, law19_Few.l0]
      repeat' first
        | exact LeO.refl _
        | exact LeO.none _
        | exact ih.1 _ _ _ _ _
        | exact ih.2.1 _ _ _ _
        | exact ih.2.2.1 _ _ _
        | exact ih.2.2.2 _ _ _
        | refine LeO.ite ?_ ?_
        | refine LeO.bind ?_ (fun _ => ?_)
theorem law19_Few.mono (k : Nat) (a0 : Footer) : LeO (law19_Few.f k a0) (law19_Few.f (k + 1) a0) := by
  unfold law19_Few.f
  repeat' first
    | exact LeO.refl _
    | exact LeO.none _
    | exact (law19_Few.mono_l k).1 _ _ _ _ _
    | exact (law19_Few.mono_l k).2.1 _ _ _ _
    | exact (law19_Few.mono_l k).2.2.1 _ _ _
    | exact (law19_Few.mono_l k).2.2.2 _ _ _
    | refine LeO.ite ?_ ?_
    | refine LeO.bind ?_ (fun _ => ?_)
theorem law19_Few.ok (k : Nat) (a0 : Footer) (S : Store) (r : Bool) (h : law19_Few.f k a0 = some r) : ACalls Try.prog 5 [.ag (Footer.enc a0)] S (fun r_ S_ => r_ = bo r ∧ Own S [] S_ []) := by
  unfold law19_Few.f at h
  refine acalls_of Try.func5 rfl ?_
  have hh := Own.nil (S := S)
  refine AT_forget 0x1 (mkS 90 [(0, .ag (Footer.enc a0))]) (by kernel_rfl) ?_
  refine zsr ?_
  refine AOps_box_im (ds := (Footer.enc a0)) (tl_get rfl) rfl rfl (by kernel_rfl) ?_
  refine fg [1] ?_
  refine seg 1 [1] [] [] (by kernel_rfl) (by kernel_rfl) ?_
  refine znsr ?_
  refine seg 1 [1, 3] [(3, i64 0)] [] (by kernel_rfl) (by kernel_rfl) ?_
  refine zn ?_
  refine AT_seq ?_
  refine zsr ?_
  refine seg 1 [1, 3, 4] [(4, i64 0)] [] (by kernel_rfl) (by kernel_rfl) ?_
  refine zn ?_
  refine AT_block ?_
  refine AT_loopM 0x1a (fun k_ sl_ S_ => k_ ≤ k ∧ ∃ (x1 : Int), ∃ (x2 : Int), LeL sl_ (mkS 90 [(1, .pt (Footer.enc a0)), (3, i64 x1), (4, i64 x2)]) ∧ law19_Few.l0 k_ a0 x1 x2 = some r ∧ Own S [] S_ []) k ⟨Nat.le_refl _, 0, 0, (le_rf (by kernel_rfl)), h, hh⟩ ?_
  clear hh h
  rintro k' sl_ S_ ⟨hk_, x1, x2, hl_, h, hh⟩
  refine AT_weaken hl_ ?_
  obtain _ | k1 := k'
  · cases h
  rw [law19_Few.l0] at h
  refine AT_seq ?_
  refine zsr ?_
  refine seg 4 [1, 3, 4, 9, 12] [(9, i64 x2), (12, i64 ((a0.Cols.map Col.enc).length : Int))] [4] (by kernel_rfl) (by kernel_rfl) ?_
  refine tod 12 (i64 ((a0.Cols.map Col.enc).length : Int)) (i64 (a0.Cols.length : Int)) (by kernel_rfl) (by rw [List.length_map]) ?_
  refine seg 1 [1, 3, 4, 13] [(13, bo (decide (x2 < (a0.Cols.length : Int))))] [] (by kernel_rfl) (by kernel_rfl) ?_
  refine zn ?_
  refine AT_condS (decide (x2 < (a0.Cols.length : Int))) (by kernel_rfl) (fun hc1 => ?_) (fun hc1 => ?_)
  · rw [if_t hc1] at h
    refine zkn ?_
    refine AT_seq ?_
    refine AT_block ?_
    refine AT_region ?_
    obtain ⟨hi2, h⟩ := is h
    refine segc 5 [1, 4, 16, 20] [(16, i64 x1), (20, .pt ((a0.Cols.map Col.enc).getD (x2 : Int).toNat []))] (0 ≤ x2 ∧ x2 < ((a0.Cols.map Col.enc).length : Int)) [5, 6, 7, 8, 9] (by kernel_rfl) (by kernel_rfl) (idx_ok hi2) ?_
    refine tod 20 (.pt ((a0.Cols.map Col.enc).getD (x2 : Int).toNat [])) (.pt (Col.enc (rd a0.Cols x2 Col.zero))) (by kernel_rfl) (by rw [pt_rd Col.enc a0.Cols x2 Col.zero hi2.1 hi2.2]) ?_
    refine seg 5 [1, 3, 4] [(3, i64 (IntKind.wrap .i64 (x1 + (((rd a0.Cols x2 Col.zero).Name).length : Int))))] [] (by kernel_rfl) (by kernel_rfl) ?_
    refine AOps_end ?_
    refine ablock_n ?_
    refine athen_n ?_
    refine AT_region ?_
    refine seg 3 [1, 3, 4] [(4, i64 (IntKind.wrap .i64 (x2 + 1)))] [] (by kernel_rfl) (by kernel_rfl) ?_
    refine zn ?_
    exact ⟨k1, (by omega), (by omega), IntKind.wrap .i64 (x1 + (((rd a0.Cols x2 Col.zero).Name).length : Int)), IntKind.wrap .i64 (x2 + 1), (le_rf (by kernel_rfl)), h, hh⟩
  rw [if_f hc1] at h
  refine AT_exit ?_
  refine athen_e ?_
  refine athen_e ?_
  refine ablock_h ?_
  refine athen_n ?_
  refine AT_seq ?_
  refine zsr ?_
  refine seg 1 [1, 3, 5] [(5, i64 0)] [] (by kernel_rfl) (by kernel_rfl) ?_
  refine zn ?_
  refine AT_block ?_
  refine AT_loopM 0x2a (fun k_ sl_ S_ => k_ ≤ k1 ∧ ∃ (x3 : Int), ∃ (x4 : Int), LeL sl_ (mkS 90 [(1, .pt (Footer.enc a0)), (3, i64 x3), (5, i64 x4)]) ∧ law19_Few.l1 k_ a0 x3 x4 = some r ∧ Own S [] S_ []) k1 ⟨Nat.le_refl _, x1, 0, (le_rf (by kernel_rfl)), h, hh⟩ ?_
  clear hh h
  rintro k' sl_ S_ ⟨hk_, x3, x4, hl_, h, hh⟩
  refine AT_weaken hl_ ?_
  obtain _ | k2 := k'
  · cases h
  rw [law19_Few.l1] at h
  refine AT_seq ?_
  refine zsr ?_
  refine seg 4 [1, 3, 5, 25, 28] [(25, i64 x4), (28, i64 ((a0.Groups.map Group.enc).length : Int))] [4] (by kernel_rfl) (by kernel_rfl) ?_
  refine tod 28 (i64 ((a0.Groups.map Group.enc).length : Int)) (i64 (a0.Groups.length : Int)) (by kernel_rfl) (by rw [List.length_map]) ?_
  refine seg 1 [1, 3, 5, 29] [(29, bo (decide (x4 < (a0.Groups.length : Int))))] [] (by kernel_rfl) (by kernel_rfl) ?_
  refine zn ?_
  refine AT_condR (decide (x4 < (a0.Groups.length : Int))) (by kernel_rfl) (fun hc2 => ?_) (fun hc2 => ?_)
  · rw [if_f hc2] at h
    refine AT_exit ?_
    refine athen_e ?_
    refine athen_e ?_
    refine ablock_h ?_
    refine athen_n ?_
    refine zsr ?_
    refine seg 3 [3, 84] [(84, i64 ((a0.Cols.map Col.enc).length : Int))] [3, 4, 5, 6, 7, 8] (by kernel_rfl) (by kernel_rfl) ?_
    refine tod 84 (i64 ((a0.Cols.map Col.enc).length : Int)) (i64 (a0.Cols.length : Int)) (by kernel_rfl) (by rw [List.length_map]) ?_
    refine seg 2 [3, 86] [(86, bo (decide ((a0.Cols.length : Int) ≤ 70)))] [5, 6, 7, 8] (by kernel_rfl) (by kernel_rfl) ?_
    refine cased 86 (decide ((a0.Cols.length : Int) ≤ 70)) (by kernel_rfl) (fun hc5 => ?_) (fun hc5 => ?_)
    · rw [if_t hc5] at h
      refine seg 4 [2] [(2, bo (decide (x3 ≤ 4000)))] [] (by kernel_rfl) (by kernel_rfl) ?_
      refine zn ?_
      refine AT_ret ?_
      have e_ := Option.some.inj h
      subst e_
      exact ⟨[bo (decide (x3 ≤ 4000))], _, S_, (.of (by kernel_rfl)), D.le.refl _, Store.le.refl _, rfl, hh⟩
    rw [if_f hc5] at h
    refine seg 4 [2] [(2, bo false)] [] (by kernel_rfl) (by kernel_rfl) ?_
    refine zn ?_
    refine AT_ret ?_
    have e_ := Option.some.inj h
    subst e_
    exact ⟨[bo false], _, S_, (.of (by kernel_rfl)), D.le.refl _, Store.le.refl _, rfl, hh⟩
  rw [if_t hc2] at h
  refine zkn ?_
  refine AT_seq ?_
  refine AT_block ?_
  refine zsr ?_
  refine seg 3 [1, 3, 5] [(3, i64 (IntKind.wrap .i64 (x3 + 10)))] [] (by kernel_rfl) (by kernel_rfl) ?_
  refine znsr ?_
  refine seg 1 [1, 3, 5, 6] [(6, i64 0)] [] (by kernel_rfl) (by kernel_rfl) ?_
  refine zn ?_
  refine AT_block ?_
  refine AT_loopM 0x6a (fun k_ sl_ S_ => k_ ≤ k2 ∧ ∃ (x5 : Int), ∃ (x6 : Int), LeL sl_ (mkS 90 [(1, .pt (Footer.enc a0)), (3, i64 x5), (5, i64 x4), (6, i64 x6)]) ∧ law19_Few.l2 k_ a0 x4 x5 x6 = some r ∧ Own S [] S_ []) k2 ⟨Nat.le_refl _, IntKind.wrap .i64 (x3 + 10), 0, (le_rf (by kernel_rfl)), h, hh⟩ ?_
  clear hh h
  rintro k' sl_ S_ ⟨hk_, x5, x6, hl_, h, hh⟩
  refine AT_weaken hl_ ?_
  obtain _ | k3 := k'
  · cases h
  rw [law19_Few.l2] at h
  refine AT_seq ?_
  refine zsr ?_
  obtain ⟨hi4, h⟩ := is h
  refine segc 5 [1, 3, 5, 6, 34, 38] [(34, i64 x6), (38, .pt ((a0.Groups.map Group.enc).getD (x4 : Int).toNat []))] (0 ≤ x4 ∧ x4 < ((a0.Groups.map Group.enc).length : Int)) [5, 6, 7, 8] (by kernel_rfl) (by kernel_rfl) (idx_ok hi4) ?_
  refine tod 38 (.pt ((a0.Groups.map Group.enc).getD (x4 : Int).toNat [])) (.pt (Group.enc (rd a0.Groups x4 Group.zero))) (by kernel_rfl) (by rw [pt_rd Group.enc a0.Groups x4 Group.zero hi4.1 hi4.2]) ?_
  refine seg 3 [1, 3, 5, 6, 34, 41] [(41, i64 ((((rd a0.Groups x4 Group.zero).Chunks).map (eL 14 PageInfo.enc)).length : Int))] [8] (by kernel_rfl) (by kernel_rfl) ?_
  refine tod 41 (i64 ((((rd a0.Groups x4 Group.zero).Chunks).map (eL 14 PageInfo.enc)).length : Int)) (i64 (((rd a0.Groups x4 Group.zero).Chunks).length : Int)) (by kernel_rfl) (by rw [List.length_map]) ?_
  refine seg 1 [1, 3, 5, 6, 42] [(42, bo (decide (x6 < (((rd a0.Groups x4 Group.zero).Chunks).length : Int))))] [] (by kernel_rfl) (by kernel_rfl) ?_
  refine zn ?_
  refine AT_condR (decide (x6 < (((rd a0.Groups x4 Group.zero).Chunks).length : Int))) (by kernel_rfl) (fun hc3 => ?_) (fun hc3 => ?_)
  · rw [if_f hc3] at h
    refine AT_exit ?_
    refine athen_e ?_
    refine athen_e ?_
    refine ablock_h ?_
    refine ablock_n ?_
    refine athen_n ?_
    refine AT_region ?_
    refine seg 3 [1, 3, 5] [(5, i64 (IntKind.wrap .i64 (x4 + 1)))] [] (by kernel_rfl) (by kernel_rfl) ?_
    refine zn ?_
    exact ⟨k3, (by omega), (by omega), x5, IntKind.wrap .i64 (x4 + 1), (le_rf (by kernel_rfl)), h, hh⟩
  rw [if_t hc3] at h
  refine zkn ?_
  refine AT_seq ?_
  refine AT_block ?_
  refine zsr ?_
  refine seg 3 [1, 3, 5, 6] [(3, i64 (IntKind.wrap .i64 (x5 + 5)))] [] (by kernel_rfl) (by kernel_rfl) ?_
  refine znsr ?_
  obtain ⟨hi6, h⟩ := is h
  refine segc 4 [1, 3, 5, 6, 50] [(50, .pt ((a0.Groups.map Group.enc).getD (x4 : Int).toNat []))] (0 ≤ x4 ∧ x4 < ((a0.Groups.map Group.enc).length : Int)) [4, 5, 6, 7, 8, 9] (by kernel_rfl) (by kernel_rfl) (idx_ok hi6) ?_
  refine tod 50 (.pt ((a0.Groups.map Group.enc).getD (x4 : Int).toNat [])) (.pt (Group.enc (rd a0.Groups x4 Group.zero))) (by kernel_rfl) (by rw [pt_rd Group.enc a0.Groups x4 Group.zero hi6.1 hi6.2]) ?_
  obtain ⟨hi7, h⟩ := is h
  refine segc 4 [1, 3, 5, 6, 54] [(54, .pt ((((rd a0.Groups x4 Group.zero).Chunks).map (eL 14 PageInfo.enc)).getD (x6 : Int).toNat []))] (0 ≤ x6 ∧ x6 < ((((rd a0.Groups x4 Group.zero).Chunks).map (eL 14 PageInfo.enc)).length : Int)) [8, 9] (by kernel_rfl) (by kernel_rfl) (idx_ok hi7) ?_
  refine tod 54 (.pt ((((rd a0.Groups x4 Group.zero).Chunks).map (eL 14 PageInfo.enc)).getD (x6 : Int).toNat [])) (.pt [.sl 14 ((rd ((rd a0.Groups x4 Group.zero).Chunks) x6 []).map PageInfo.enc) none]) (by kernel_rfl) (by rw [pt_rd (eL 14 PageInfo.enc) ((rd a0.Groups x4 Group.zero).Chunks) x6 [] hi7.1 hi7.2]) ?_
  refine seg 2 [1, 3, 5, 6, 7] [(7, .sl 14 ((rd ((rd a0.Groups x4 Group.zero).Chunks) x6 []).map PageInfo.enc) none)] [] (by kernel_rfl) (by kernel_rfl) ?_
  refine znsr ?_
  refine seg 1 [1, 3, 5, 6, 7, 8] [(8, i64 0)] [] (by kernel_rfl) (by kernel_rfl) ?_
  refine zn ?_
  refine AT_block ?_
  refine AT_loopM 0x1ea (fun k_ sl_ S_ => k_ ≤ k3 ∧ ∃ (x7 : Int), ∃ (x8 : Int), LeL sl_ (mkS 90 [(1, .pt (Footer.enc a0)), (3, i64 x7), (5, i64 x4), (6, i64 x6), (7, .sl 14 ((rd ((rd a0.Groups x4 Group.zero).Chunks) x6 []).map PageInfo.enc) none), (8, i64 x8)]) ∧ law19_Few.l3 k_ a0 x4 x6 x7 x8 = some r ∧ Own S [] S_ []) k3 ⟨Nat.le_refl _, IntKind.wrap .i64 (x5 + 5), 0, (le_rf (by kernel_rfl)), h, hh⟩ ?_
  clear hh h
  rintro k' sl_ S_ ⟨hk_, x7, x8, hl_, h, hh⟩
  refine AT_weaken hl_ ?_
  obtain _ | k4 := k'
  · cases h
  rw [law19_Few.l3] at h
  refine AT_seq ?_
  refine zsr ?_
  refine seg 3 [1, 3, 5, 6, 7, 8, 56, 58] [(56, i64 x8), (58, i64 (((rd ((rd a0.Groups x4 Group.zero).Chunks) x6 []).map PageInfo.enc).length : Int))] [3] (by kernel_rfl) (by kernel_rfl) ?_
  refine tod 58 (i64 (((rd ((rd a0.Groups x4 Group.zero).Chunks) x6 []).map PageInfo.enc).length : Int)) (i64 ((rd ((rd a0.Groups x4 Group.zero).Chunks) x6 []).length : Int)) (by kernel_rfl) (by rw [List.length_map]) ?_
  refine seg 1 [1, 3, 5, 6, 7, 8, 59] [(59, bo (decide (x8 < ((rd ((rd a0.Groups x4 Group.zero).Chunks) x6 []).length : Int))))] [] (by kernel_rfl) (by kernel_rfl) ?_
  refine zn ?_
  refine AT_condR (decide (x8 < ((rd ((rd a0.Groups x4 Group.zero).Chunks) x6 []).length : Int))) (by kernel_rfl) (fun hc4 => ?_) (fun hc4 => ?_)
  · rw [if_f hc4] at h
    refine AT_exit ?_
    refine athen_e ?_
    refine athen_e ?_
    refine ablock_h ?_
    refine ablock_n ?_
    refine athen_n ?_
    refine AT_region ?_
    refine seg 3 [1, 3, 5, 6] [(6, i64 (IntKind.wrap .i64 (x6 + 1)))] [] (by kernel_rfl) (by kernel_rfl) ?_
    refine zn ?_
    exact ⟨k4, (by omega), (by omega), x7, IntKind.wrap .i64 (x6 + 1), (le_rf (by kernel_rfl)), h, hh⟩
  rw [if_t hc4] at h
  refine zkn ?_
  refine AT_seq ?_
  refine AT_block ?_
  refine AT_draw [] 21 (fun _ => True) (by kernel_rfl) ?_
  refine aseg 21 [] [1, 3, 5, 6, 7, 8] [] #[false, false, false, false, false, false, false, false, false, false, false, false, false, false, false, false, false, false, false, false, false] (by kernel_rfl) (by kernel_rfl) ?_
  obtain ⟨hi9, h⟩ := is h
  refine asegc 16 [0, 1, 2, 3, 4] [1, 3, 5, 6, 7, 8, 63, 66] [(63, i64 (IntKind.wrap .i64 (x7 + 10))), (66, .pt (((rd ((rd a0.Groups x4 Group.zero).Chunks) x6 []).map PageInfo.enc).getD (x8 : Int).toNat []))] (0 ≤ x8 ∧ x8 < (((rd ((rd a0.Groups x4 Group.zero).Chunks) x6 []).map PageInfo.enc).length : Int)) #[true, true, true, true, true, false, false, false, false, false, false, false, false, false, false, false, false, false, false, false, false] (by kernel_rfl) (idx_ok hi9) (by kernel_rfl) ?_
  refine atod 66 (.pt (((rd ((rd a0.Groups x4 Group.zero).Chunks) x6 []).map PageInfo.enc).getD (x8 : Int).toNat [])) (.pt (PageInfo.enc (rd (rd ((rd a0.Groups x4 Group.zero).Chunks) x6 []) x8 PageInfo.zero))) (by kernel_rfl) (by rw [pt_rd PageInfo.enc (rd ((rd a0.Groups x4 Group.zero).Chunks) x6 []) x8 PageInfo.zero hi9.1 hi9.2]) ?_
  refine aseg 10 [5, 6, 7, 8, 9, 10] [1, 3, 5, 6, 7, 8, 72] [(72, i64 (IntKind.wrap .i64 ((IntKind.wrap .i64 (x7 + 10)) + (((((rd (rd ((rd a0.Groups x4 Group.zero).Chunks) x6 []) x8 PageInfo.zero).Stat).Min).Text).length : Int))))] #[true, true, true, true, true, true, true, true, true, true, true, false, false, false, false, false, false, false, false, false, false] (by kernel_rfl) (by kernel_rfl) ?_
  obtain ⟨hi10, h⟩ := is h
  refine asegc 7 [11, 12, 13] [1, 3, 5, 6, 7, 8, 72, 75] [(75, .pt (((rd ((rd a0.Groups x4 Group.zero).Chunks) x6 []).map PageInfo.enc).getD (x8 : Int).toNat []))] (0 ≤ x8 ∧ x8 < (((rd ((rd a0.Groups x4 Group.zero).Chunks) x6 []).map PageInfo.enc).length : Int)) #[true, true, true, true, true, true, true, true, true, true, true, true, true, true, false, false, false, false, false, false, false] (by kernel_rfl) (idx_ok hi10) (by kernel_rfl) ?_
  refine atod 75 (.pt (((rd ((rd a0.Groups x4 Group.zero).Chunks) x6 []).map PageInfo.enc).getD (x8 : Int).toNat [])) (.pt (PageInfo.enc (rd (rd ((rd a0.Groups x4 Group.zero).Chunks) x6 []) x8 PageInfo.zero))) (by kernel_rfl) (by rw [pt_rd PageInfo.enc (rd ((rd a0.Groups x4 Group.zero).Chunks) x6 []) x8 PageInfo.zero hi10.1 hi10.2]) ?_
  refine aseg 1 [14, 15, 16, 17, 18, 19] [1, 3, 5, 6, 7, 8, 81] [(81, i64 (IntKind.wrap .i64 ((IntKind.wrap .i64 ((IntKind.wrap .i64 (x7 + 10)) + (((((rd (rd ((rd a0.Groups x4 Group.zero).Chunks) x6 []) x8 PageInfo.zero).Stat).Min).Text).length : Int))) + (((((rd (rd ((rd a0.Groups x4 Group.zero).Chunks) x6 []) x8 PageInfo.zero).Stat).Max).Text).length : Int))))] #[true, true, true, true, true, true, true, true, true, true, true, true, true, true, true, true, true, true, true, true, false] (by kernel_rfl) (by kernel_rfl) ?_
  refine aseg 0 [20] [1, 3, 5, 6, 7, 8] [(3, i64 (IntKind.wrap .i64 ((IntKind.wrap .i64 ((IntKind.wrap .i64 (x7 + 10)) + (((((rd (rd ((rd a0.Groups x4 Group.zero).Chunks) x6 []) x8 PageInfo.zero).Stat).Min).Text).length : Int))) + (((((rd (rd ((rd a0.Groups x4 Group.zero).Chunks) x6 []) x8 PageInfo.zero).Stat).Max).Text).length : Int))))] #[true, true, true, true, true, true, true, true, true, true, true, true, true, true, true, true, true, true, true, true, true] (by kernel_rfl) (by kernel_rfl) ?_
  refine AAny_end (.inr trivial) (by kernel_rfl) ?_
  refine ablock_n ?_
  refine athen_n ?_
  refine AT_region ?_
  refine AOps_seg 3 0x1ea (mkS 90 [(1, .pt (Footer.enc a0)), (3, i64 (IntKind.wrap .i64 ((IntKind.wrap .i64 ((IntKind.wrap .i64 (x7 + 10)) + (((((rd (rd ((rd a0.Groups x4 Group.zero).Chunks) x6 []) x8 PageInfo.zero).Stat).Min).Text).length : Int))) + (((((rd (rd ((rd a0.Groups x4 Group.zero).Chunks) x6 []) x8 PageInfo.zero).Stat).Max).Text).length : Int)))), (5, i64 x4), (6, i64 x6), (7, .sl 14 ((rd ((rd a0.Groups x4 Group.zero).Chunks) x6 []).map PageInfo.enc) none), (8, i64 (IntKind.wrap .i64 (x8 + 1)))]) none [] (by kernel_rfl) (by kernel_rfl) trivial ?_
  refine zn ?_
  exact ⟨k4, (by omega), (by omega), IntKind.wrap .i64 ((IntKind.wrap .i64 ((IntKind.wrap .i64 (x7 + 10)) + (((((rd (rd ((rd a0.Groups x4 Group.zero).Chunks) x6 []) x8 PageInfo.zero).Stat).Min).Text).length : Int))) + (((((rd (rd ((rd a0.Groups x4 Group.zero).Chunks) x6 []) x8 PageInfo.zero).Stat).Max).Text).length : Int)), IntKind.wrap .i64 (x8 + 1), (le_rf (by kernel_rfl)), h, hh⟩
mutual
def ref07_Cols.l2 : Nat → (List Col) → Int → Bool → Int → Option (Int)
  | 0, _, _, _, _ => none
  | k + 1, a0, x1, x3, x4 => if (decide (x4 < x1)) = true then (if x3 = true then (ref07_Cols.l2 k a0 x1 true (IntKind.wrap .i64 (x4 + 1))) else (if 0 ≤ x4 ∧ x4 < (a0.length : Int) then (if 0 ≤ x1 ∧ x1 < (a0.length : Int) then (ref07_Cols.l2 k a0 x1 (((rd a0 x4 Col.zero).Name) == ((rd a0 x1 Col.zero).Name)) (IntKind.wrap .i64 (x4 + 1))) else none) else none)) else (if x3 = true then (some 1) else (if 0 ≤ x1 ∧ x1 < (a0.length : Int) then (if (decide (((rd a0 x1 Col.zero).Type_) < 0)) = true then (some 3) else (if 0 ≤ x1 ∧ x1 < (a0.length : Int) then (if (decide (((rd a0 x1 Col.zero).Type_) > 3)) = true then (some 3) else (ref07_Cols.l0 k a0 (IntKind.wrap .i64 (x1 + 1)))) else none)) else none))
def ref07_Cols.j1 : Nat → (List Col) → Int → Bool → Option (Int)
  | 0, _, _, _ => none
  | k + 1, a0, x1, x2 => ref07_Cols.l2 k a0 x1 x2 0
def ref07_Cols.l0 : Nat → (List Col) → Int → Option (Int)
  | 0, _, _ => none
  | k + 1, a0, x1 => if (decide (x1 < (a0.length : Int))) = true then (if 0 ≤ x1 ∧ x1 < (a0.length : Int) then (if (((rd a0 x1 Col.zero).Name) == []) = true then (ref07_Cols.j1 k a0 x1 true) else (if 0 ≤ x1 ∧ x1 < (a0.length : Int) then (ref07_Cols.j1 k a0 x1 (decide ((((rd a0 x1 Col.zero).Name).length : Int) > 100))) else none)) else none) else (some 0)
end
def ref07_Cols.f (k : Nat) (a0 : (List Col)) : Option (Int) := if (decide ((a0.length : Int) > 64)) = true then (some 4) else (ref07_Cols.l0 k a0 0)
theorem ref07_Cols.mono_l : ∀ k, (∀ y0 y1 y2 y3, LeO (ref07_Cols.l2 k y0 y1 y2 y3) (ref07_Cols.l2 (k + 1) y0 y1 y2 y3)) ∧ (∀ y0 y1 y2, LeO (ref07_Cols.j1 k y0 y1 y2) (ref07_Cols.j1 (k + 1) y0 y1 y2)) ∧ (∀ y0 y1, LeO (ref07_Cols.l0 k y0 y1) (ref07_Cols.l0 (k + 1) y0 y1))
  | 0 => ⟨fun _ _ _ _ r h => (by simp only [ref07_Cols.l2] at h; cases h), fun _ _ _ r h => (by simp only [ref07_Cols.j1] at h; cases h), fun _ _ r h => (by simp only [ref07_Cols.l0] at h; cases h)⟩
  | k + 1 => by
    have ih := ref07_Cols.mono_l k
    refine ⟨?_, ?_, ?_⟩
    · intro y0 y1 y2 y3
      rw [ref07_Cols.l2, ref07_Cols.l2]
      repeat' first
        | exact LeO.refl _
        | exact LeO.none _
        | exact ih.1 _ _ _ _
        | exact ih.2.1 _ _ _
        | exact ih.2.2 _ _
        | refine LeO.ite ?_ ?_
        | refine LeO.bind ?_ (fun _ => ?_)
    · intro y0 y1 y2
      rw [ref07_Cols.j1, ref07_Cols.j1]
      repeat' first
        | exact LeO.refl _
        | exact LeO.none _
        | exact ih.1 _ _ _ _
        | exact ih.2.1 _ _ _
        | exact ih.2.2 _ _
        | refine LeO.ite ?_ ?_
        | refine LeO.bind ?_ (fun _ => ?_)
    · intro y0 y1
      rw [ref07_Cols.l0, ref07_Cols.l0]
      repeat' first
        | exact LeO.refl _
        | exact LeO.none _
        | exact ih.1 _ _ _ _
        | exact ih.2.1 _ _ _
        | exact ih.2.2 _ _
        | refine LeO.ite ?_ ?_
        | refine LeO.bind ?_ (fun _ => ?_)
theorem ref07_Cols.mono (k : Nat) (a0 : (List Col)) : LeO (ref07_Cols.f k a0) (ref07_Cols.f (k + 1) a0) := by
  unfold ref07_Cols.f
  repeat' first
    | exact LeO.refl _
    | exact LeO.none _
    | exact (ref07_Cols.mono_l k).1 _ _ _ _
    | exact (ref07_Cols.mono_l k).2.1 _ _ _
    | exact (ref07_Cols.mono_l k).2.2 _ _
    | refine LeO.ite ?_ ?_
    | refine LeO.bind ?_ (fun _ => ?_)
theorem ref07_Cols.ok (k : Nat) (a0 : (List Col)) (S : Store) (r : Int) (h : ref07_Cols.f k a0 = some r) : ACalls Try.prog 13 [.sl 3 (a0.map Col.enc) none] S (fun r_ S_ => r_ = i64 r ∧ Own S [] S_ []) := by
  unfold ref07_Cols.f at h
  refine acalls_of Try.func13 rfl ?_
  have hh := Own.nil (S := S)
  refine AT_forget 0x1 (mkS 64 [(0, .sl 3 (a0.map Col.enc) none)]) (by kernel_rfl) ?_
  refine zsr ?_
  refine seg 1 [0] [] [] (by kernel_rfl) (by kernel_rfl) ?_
  refine zn ?_
  refine AT_seq ?_
  refine zsr ?_
  refine seg 2 [0, 7] [(7, i64 ((a0.map Col.enc).length : Int))] [2] (by kernel_rfl) (by kernel_rfl) ?_
  refine tod 7 (i64 ((a0.map Col.enc).length : Int)) (i64 (a0.length : Int)) (by kernel_rfl) (by rw [List.length_map]) ?_
  refine seg 1 [0, 8] [(8, bo (decide ((a0.length : Int) > 64)))] [] (by kernel_rfl) (by kernel_rfl) ?_
  refine zn ?_
  refine AT_condS (decide ((a0.length : Int) > 64)) (by kernel_rfl) (fun hc1 => ?_) (fun hc1 => ?_)
  · rw [if_t hc1] at h
    refine zsr ?_
    refine seg 1 [2] [(2, i64 4)] [] (by kernel_rfl) (by kernel_rfl) ?_
    refine zn ?_
    refine AT_ret ?_
    refine athen_r ?_
    have e_ := Option.some.inj h
    subst e_
    exact ⟨[i64 4], _, S, (.of (by kernel_rfl)), D.le.refl _, Store.le.refl _, rfl, hh⟩
  rw [if_f hc1] at h
  refine zkn ?_
  refine AT_seq ?_
  refine zsr ?_
  refine seg 1 [0, 3] [(3, i64 0)] [] (by kernel_rfl) (by kernel_rfl) ?_
  refine zn ?_
  refine AT_block ?_
  refine AT_loopM 0x9 (fun k_ sl_ S_ => k_ ≤ k ∧ ∃ (x1 : Int), LeL sl_ (mkS 64 [(0, .sl 3 (a0.map Col.enc) none), (3, i64 x1)]) ∧ ref07_Cols.l0 k_ a0 x1 = some r ∧ Own S [] S_ []) k ⟨Nat.le_refl _, 0, (le_rf (by kernel_rfl)), h, hh⟩ ?_
  clear hh h
  rintro k' sl_ S_ ⟨hk_, x1, hl_, h, hh⟩
  refine AT_weaken hl_ ?_
  obtain _ | k1 := k'
  · cases h
  rw [ref07_Cols.l0] at h
  refine AT_seq ?_
  refine zsr ?_
  refine seg 3 [0, 3, 9, 11] [(9, i64 x1), (11, i64 ((a0.map Col.enc).length : Int))] [3] (by kernel_rfl) (by kernel_rfl) ?_
  refine tod 11 (i64 ((a0.map Col.enc).length : Int)) (i64 (a0.length : Int)) (by kernel_rfl) (by rw [List.length_map]) ?_
  refine seg 1 [0, 3, 12] [(12, bo (decide (x1 < (a0.length : Int))))] [] (by kernel_rfl) (by kernel_rfl) ?_
  refine zn ?_
  refine AT_condR (decide (x1 < (a0.length : Int))) (by kernel_rfl) (fun hc2 => ?_) (fun hc2 => ?_)
  · rw [if_f hc2] at h
    refine AT_exit ?_
    refine athen_e ?_
    refine athen_e ?_
    refine ablock_h ?_
    refine athen_n ?_
    refine zsr ?_
    refine seg 1 [2] [(2, i64 0)] [] (by kernel_rfl) (by kernel_rfl) ?_
    refine zn ?_
    refine AT_ret ?_
    have e_ := Option.some.inj h
    subst e_
    exact ⟨[i64 0], _, S_, (.of (by kernel_rfl)), D.le.refl _, Store.le.refl _, rfl, hh⟩
  rw [if_t hc2] at h
  refine zkn ?_
  refine AT_seq ?_
  refine AT_block ?_
  refine AT_cutM 0x19 (fun sl_ S_ => ∃ (k_ : Nat), k_ ≤ k1 ∧ ∃ (x2 : Bool), LeL sl_ (mkS 64 [(0, .sl 3 (a0.map Col.enc) none), (3, i64 x1), (4, bo x2)]) ∧ ref07_Cols.j1 k_ a0 x1 x2 = some r ∧ Own S [] S_ []) ?_ ?_
  · refine AT_region ?_
    obtain ⟨hi5, h⟩ := is h
    refine segc 3 [0, 3, 17] [(17, .pt ((a0.map Col.enc).getD (x1 : Int).toNat []))] (0 ≤ x1 ∧ x1 < ((a0.map Col.enc).length : Int)) [3, 4, 5, 6, 7, 8, 9, 10, 11, 12, 13, 14, 15] (by kernel_rfl) (by kernel_rfl) (idx_ok hi5) ?_
    refine tod 17 (.pt ((a0.map Col.enc).getD (x1 : Int).toNat [])) (.pt (Col.enc (rd a0 x1 Col.zero))) (by kernel_rfl) (by rw [pt_rd Col.enc a0 x1 Col.zero hi5.1 hi5.2]) ?_
    refine seg 4 [0, 3, 21] [(21, bo (((rd a0 x1 Col.zero).Name) == []))] [7, 8, 9, 10, 11, 12, 13, 14, 15] (by kernel_rfl) (by kernel_rfl) ?_
    refine cased 21 (((rd a0 x1 Col.zero).Name) == []) (by kernel_rfl) (fun hc4 => ?_) (fun hc4 => ?_)
    · rw [if_t hc4] at h
      refine seg 9 [0, 3, 4] [(4, bo true)] [] (by kernel_rfl) (by kernel_rfl) ?_
      refine zn ?_
      exact ⟨k1, (by omega), true, (le_rf (by kernel_rfl)), h, hh⟩
    rw [if_f hc4] at h
    obtain ⟨hi6, h⟩ := is h
    refine segc 3 [0, 3, 21, 24] [(24, .pt ((a0.map Col.enc).getD (x1 : Int).toNat []))] (0 ≤ x1 ∧ x1 < ((a0.map Col.enc).length : Int)) [10, 11, 12, 13, 14, 15] (by kernel_rfl) (by kernel_rfl) (idx_ok hi6) ?_
    refine tod 24 (.pt ((a0.map Col.enc).getD (x1 : Int).toNat [])) (.pt (Col.enc (rd a0 x1 Col.zero))) (by kernel_rfl) (by rw [pt_rd Col.enc a0 x1 Col.zero hi6.1 hi6.2]) ?_
    refine seg 6 [0, 3, 4] [(4, bo (decide ((((rd a0 x1 Col.zero).Name).length : Int) > 100)))] [] (by kernel_rfl) (by kernel_rfl) ?_
    refine zn ?_
    exact ⟨k1, (by omega), decide ((((rd a0 x1 Col.zero).Name).length : Int) > 100), (le_rf (by kernel_rfl)), h, hh⟩
  clear h hh
  rintro sl_ S_ ⟨k', hk_, x2, hl_, h, hh⟩
  refine AT_weaken hl_ ?_
  obtain _ | k2 := k'
  · cases h
  rw [ref07_Cols.j1] at h
  refine AT_seq ?_
  refine zsr ?_
  refine seg 1 [0, 3, 4, 5] [(5, i64 0)] [] (by kernel_rfl) (by kernel_rfl) ?_
  refine zn ?_
  refine AT_block ?_
  refine AT_loopM 0x39 (fun k_ sl_ S_ => k_ ≤ k2 ∧ ∃ (x3 : Bool), ∃ (x4 : Int), LeL sl_ (mkS 64 [(0, .sl 3 (a0.map Col.enc) none), (3, i64 x1), (4, bo x3), (5, i64 x4)]) ∧ ref07_Cols.l2 k_ a0 x1 x3 x4 = some r ∧ Own S [] S_ []) k2 ⟨Nat.le_refl _, x2, 0, (le_rf (by kernel_rfl)), h, hh⟩ ?_
  clear hh h
  rintro k' sl_ S_ ⟨hk_, x3, x4, hl_, h, hh⟩
  refine AT_weaken hl_ ?_
  obtain _ | k3 := k'
  · cases h
  rw [ref07_Cols.l2] at h
  refine AT_seq ?_
  refine zsr ?_
  refine seg 3 [0, 3, 4, 5, 32] [(32, bo (decide (x4 < x1)))] [] (by kernel_rfl) (by kernel_rfl) ?_
  refine zn ?_
  refine AT_condS (decide (x4 < x1)) (by kernel_rfl) (fun hc5 => ?_) (fun hc5 => ?_)
  · rw [if_t hc5] at h
    refine zkn ?_
    refine AT_seq ?_
    refine AT_block ?_
    refine AT_draw [] 15 (fun _ => True) (by kernel_rfl) ?_
    refine aseg 15 [] [0, 3, 4, 5] [] #[false, false, false, false, false, false, false, false, false, false, false, false, false, false, false] (by kernel_rfl) (by kernel_rfl) ?_
    refine aseg 13 [0, 1] [0, 3, 4, 5, 36] [(36, bo x3)] #[true, true, false, false, false, false, false, false, false, false, false, false, false, false, false] (by kernel_rfl) (by kernel_rfl) ?_
    refine acased 36 x3 (by kernel_rfl) (fun hc6 => ?_) (fun hc6 => ?_)
    · rw [if_t hc6] at h
      refine aseg 0 [2, 3, 4, 5, 6, 7, 8, 9, 10, 11, 12, 13, 14] [0, 3, 4, 5] [(4, bo true)] #[true, true, true, true, true, true, true, true, true, true, true, true, true, true, true] (by kernel_rfl) (by kernel_rfl) ?_
      refine AAny_end (.inr trivial) (by kernel_rfl) ?_
      refine ablock_n ?_
      refine athen_n ?_
      refine AT_region ?_
      refine seg 3 [0, 3, 4, 5] [(5, i64 (IntKind.wrap .i64 (x4 + 1)))] [] (by kernel_rfl) (by kernel_rfl) ?_
      refine zn ?_
      exact ⟨k3, (by omega), (by omega), true, IntKind.wrap .i64 (x4 + 1), (le_rf (by kernel_rfl)), h, hh⟩
    rw [if_f hc6] at h
    obtain ⟨hi7, h⟩ := is h
    refine asegc 10 [2, 3, 4] [0, 3, 4, 5, 36, 39] [(39, .pt ((a0.map Col.enc).getD (x4 : Int).toNat []))] (0 ≤ x4 ∧ x4 < ((a0.map Col.enc).length : Int)) #[true, true, true, true, true, false, false, false, false, false, false, false, false, false, false] (by kernel_rfl) (idx_ok hi7) (by kernel_rfl) ?_
    refine atod 39 (.pt ((a0.map Col.enc).getD (x4 : Int).toNat [])) (.pt (Col.enc (rd a0 x4 Col.zero))) (by kernel_rfl) (by rw [pt_rd Col.enc a0 x4 Col.zero hi7.1 hi7.2]) ?_
    obtain ⟨hi8, h⟩ := is h
    refine asegc 5 [5, 6, 7, 8, 9] [0, 3, 4, 5, 36, 41, 44] [(41, str ((rd a0 x4 Col.zero).Name)), (44, .pt ((a0.map Col.enc).getD (x1 : Int).toNat []))] (0 ≤ x1 ∧ x1 < ((a0.map Col.enc).length : Int)) #[true, true, true, true, true, true, true, true, true, true, false, false, false, false, false] (by kernel_rfl) (idx_ok hi8) (by kernel_rfl) ?_
    refine atod 44 (.pt ((a0.map Col.enc).getD (x1 : Int).toNat [])) (.pt (Col.enc (rd a0 x1 Col.zero))) (by kernel_rfl) (by rw [pt_rd Col.enc a0 x1 Col.zero hi8.1 hi8.2]) ?_
    refine aseg 0 [10, 11, 12, 13, 14] [0, 3, 4, 5] [(4, bo (((rd a0 x4 Col.zero).Name) == ((rd a0 x1 Col.zero).Name)))] #[true, true, true, true, true, true, true, true, true, true, true, true, true, true, true] (by kernel_rfl) (by kernel_rfl) ?_
    refine AAny_end (.inr trivial) (by kernel_rfl) ?_
    refine ablock_n ?_
    refine athen_n ?_
    refine AT_region ?_
    refine seg 3 [0, 3, 4, 5] [(5, i64 (IntKind.wrap .i64 (x4 + 1)))] [] (by kernel_rfl) (by kernel_rfl) ?_
    refine zn ?_
    exact ⟨k3, (by omega), (by omega), ((rd a0 x4 Col.zero).Name) == ((rd a0 x1 Col.zero).Name), IntKind.wrap .i64 (x4 + 1), (le_rf (by kernel_rfl)), h, hh⟩
  rw [if_f hc5] at h
  refine AT_exit ?_
  refine athen_e ?_
  refine athen_e ?_
  refine ablock_h ?_
  refine athen_n ?_
  refine AT_seq ?_
  refine zsr ?_
  refine seg 1 [0, 3, 49] [(49, bo x3)] [] (by kernel_rfl) (by kernel_rfl) ?_
  refine zn ?_
  refine AT_condS x3 (by kernel_rfl) (fun hc7 => ?_) (fun hc7 => ?_)
  · rw [if_t hc7] at h
    refine zsr ?_
    refine seg 1 [2] [(2, i64 1)] [] (by kernel_rfl) (by kernel_rfl) ?_
    refine zn ?_
    refine AT_ret ?_
    refine athen_r ?_
    refine ablock_r ?_
    refine athen_r ?_
    refine athen_r ?_
    refine ablock_r ?_
    refine athen_r ?_
    have e_ := Option.some.inj h
    subst e_
    exact ⟨[i64 1], _, S_, (.of (by kernel_rfl)), D.le.refl _, Store.le.refl _, rfl, hh⟩
  rw [if_f hc7] at h
  refine zkn ?_
  refine zsr ?_
  obtain ⟨hi9, h⟩ := is h
  refine segc 3 [0, 3, 52] [(52, .pt ((a0.map Col.enc).getD (x1 : Int).toNat []))] (0 ≤ x1 ∧ x1 < ((a0.map Col.enc).length : Int)) [3, 4, 5, 6, 7, 8, 9, 10, 11, 12, 13] (by kernel_rfl) (by kernel_rfl) (idx_ok hi9) ?_
  refine tod 52 (.pt ((a0.map Col.enc).getD (x1 : Int).toNat [])) (.pt (Col.enc (rd a0 x1 Col.zero))) (by kernel_rfl) (by rw [pt_rd Col.enc a0 x1 Col.zero hi9.1 hi9.2]) ?_
  refine seg 4 [0, 3, 56] [(56, bo (decide (((rd a0 x1 Col.zero).Type_) < 0)))] [7, 8, 9, 10, 11, 12, 13] (by kernel_rfl) (by kernel_rfl) ?_
  refine cased 56 (decide (((rd a0 x1 Col.zero).Type_) < 0)) (by kernel_rfl) (fun hc8 => ?_) (fun hc8 => ?_)
  · rw [if_t hc8] at h
    refine seg 7 [0, 3, 63] [(63, bo true)] [] (by kernel_rfl) (by kernel_rfl) ?_
    refine zn ?_
    refine AT_cond_t (by kernel_rfl) ?_
    refine zsr ?_
    refine seg 1 [2] [(2, i64 3)] [] (by kernel_rfl) (by kernel_rfl) ?_
    refine zn ?_
    refine AT_ret ?_
    refine ablock_r ?_
    refine athen_r ?_
    refine athen_r ?_
    refine ablock_r ?_
    refine athen_r ?_
    have e_ := Option.some.inj h
    subst e_
    exact ⟨[i64 3], _, S_, (.of (by kernel_rfl)), D.le.refl _, Store.le.refl _, rfl, hh⟩
  rw [if_f hc8] at h
  obtain ⟨hi10, h⟩ := is h
  refine segc 3 [0, 3, 56, 59] [(59, .pt ((a0.map Col.enc).getD (x1 : Int).toNat []))] (0 ≤ x1 ∧ x1 < ((a0.map Col.enc).length : Int)) [10, 11, 12, 13] (by kernel_rfl) (by kernel_rfl) (idx_ok hi10) ?_
  refine tod 59 (.pt ((a0.map Col.enc).getD (x1 : Int).toNat [])) (.pt (Col.enc (rd a0 x1 Col.zero))) (by kernel_rfl) (by rw [pt_rd Col.enc a0 x1 Col.zero hi10.1 hi10.2]) ?_
  refine seg 4 [0, 3, 63] [(63, bo (decide (((rd a0 x1 Col.zero).Type_) > 3)))] [] (by kernel_rfl) (by kernel_rfl) ?_
  refine zn ?_
  refine AT_condR (decide (((rd a0 x1 Col.zero).Type_) > 3)) (by kernel_rfl) (fun hc9 => ?_) (fun hc9 => ?_)
  · rw [if_f hc9] at h
    refine AT_skip ?_
    refine ablock_n ?_
    refine athen_n ?_
    refine AT_region ?_
    refine seg 3 [0, 3] [(3, i64 (IntKind.wrap .i64 (x1 + 1)))] [] (by kernel_rfl) (by kernel_rfl) ?_
    refine zn ?_
    exact ⟨k3, (by omega), (by omega), IntKind.wrap .i64 (x1 + 1), (le_rf (by kernel_rfl)), h, hh⟩
  rw [if_t hc9] at h
  refine zsr ?_
  refine seg 1 [2] [(2, i64 3)] [] (by kernel_rfl) (by kernel_rfl) ?_
  refine zn ?_
  refine AT_ret ?_
  refine ablock_r ?_
  refine athen_r ?_
  refine athen_r ?_
  refine ablock_r ?_
  refine athen_r ?_
  have e_ := Option.some.inj h
  subst e_
  exact ⟨[i64 3], _, S_, (.of (by kernel_rfl)), D.le.refl _, Store.le.refl _, rfl, hh⟩
def ref06_Right.f (a0 : Point) : Option (Bool) := if (decide (a0.X ≥ (-1048576))) = true then (if (decide (a0.X ≤ 1048576)) = true then (if (decide (a0.Y ≥ (-1048576))) = true then (some (decide (a0.Y ≤ 1048576))) else (some false)) else (some false)) else (some false)
theorem ref06_Right.ok (a0 : Point) (S : Store) (r : Bool) (h : ref06_Right.f a0 = some r) : ACalls Try.prog 66 [.ag (Point.enc a0)] S (fun r_ S_ => r_ = bo r ∧ Own S [] S_ []) := by
  unfold ref06_Right.f at h
  refine acalls_of Try.func66 rfl ?_
  have hh := Own.nil (S := S)
  refine AT_forget 0x1 (mkS 21 [(0, .ag (Point.enc a0))]) (by kernel_rfl) ?_
  refine zsr ?_
  refine AOps_box_im (ds := (Point.enc a0)) (tl_get rfl) rfl rfl (by kernel_rfl) ?_
  refine fg [1] ?_
  refine seg 1 [1] [] [] (by kernel_rfl) (by kernel_rfl) ?_
  refine znsr ?_
  refine seg 4 [1, 6] [(6, bo (decide (a0.X ≥ (-1048576))))] [4, 5, 6, 7, 8, 9, 10, 11, 12, 13, 14, 15, 16, 17, 18] (by kernel_rfl) (by kernel_rfl) ?_
  refine casedR 6 (decide (a0.X ≥ (-1048576))) (by kernel_rfl) (fun hc1 => ?_) (fun hc1 => ?_)
  · rw [if_f hc1] at h
    refine seg 15 [2] [(2, bo false)] [] (by kernel_rfl) (by kernel_rfl) ?_
    refine zn ?_
    refine AT_ret ?_
    have e_ := Option.some.inj h
    subst e_
    exact ⟨[bo false], _, S, (.of (by kernel_rfl)), D.le.refl _, Store.le.refl _, rfl, hh⟩
  rw [if_t hc1] at h
  refine seg 5 [1, 11] [(11, bo (decide (a0.X ≤ 1048576)))] [9, 10, 11, 12, 13, 14, 15, 16, 17, 18] (by kernel_rfl) (by kernel_rfl) ?_
  refine casedR 11 (decide (a0.X ≤ 1048576)) (by kernel_rfl) (fun hc2 => ?_) (fun hc2 => ?_)
  · rw [if_f hc2] at h
    refine seg 10 [2] [(2, bo false)] [] (by kernel_rfl) (by kernel_rfl) ?_
    refine zn ?_
    refine AT_ret ?_
    have e_ := Option.some.inj h
    subst e_
    exact ⟨[bo false], _, S, (.of (by kernel_rfl)), D.le.refl _, Store.le.refl _, rfl, hh⟩
  rw [if_t hc2] at h
  refine seg 5 [1, 16] [(16, bo (decide (a0.Y ≥ (-1048576))))] [14, 15, 16, 17, 18] (by kernel_rfl) (by kernel_rfl) ?_
  refine cased 16 (decide (a0.Y ≥ (-1048576))) (by kernel_rfl) (fun hc3 => ?_) (fun hc3 => ?_)
  · rw [if_t hc3] at h
    refine seg 5 [2] [(2, bo (decide (a0.Y ≤ 1048576)))] [] (by kernel_rfl) (by kernel_rfl) ?_
    refine zn ?_
    refine AT_ret ?_
    have e_ := Option.some.inj h
    subst e_
    exact ⟨[bo (decide (a0.Y ≤ 1048576))], _, S, (.of (by kernel_rfl)), D.le.refl _, Store.le.refl _, rfl, hh⟩
  rw [if_f hc3] at h
  refine seg 5 [2] [(2, bo false)] [] (by kernel_rfl) (by kernel_rfl) ?_
  refine zn ?_
  refine AT_ret ?_
  have e_ := Option.some.inj h
  subst e_
  exact ⟨[bo false], _, S, (.of (by kernel_rfl)), D.le.refl _, Store.le.refl _, rfl, hh⟩
def ref07_Right.f (a0 : Cell) (a1 : Col) : Option (Bool) := if a0.Null = true then (if a1.Nullable = true then (some ((a0.Null == true) && ((a0.Int == 0) && ((a0.Text == []) && (((a0.At.X == 0) && ((a0.At.Y == 0) && true)) && true))))) else (some false)) else (if (a1.Type_ == 0) = true then (some ((a0.Null == false) && ((a0.Int == a0.Int) && ((a0.Text == []) && (((a0.At.X == 0) && ((a0.At.Y == 0) && true)) && true))))) else (if (a1.Type_ == 1) = true then (if ((a0.Null == false) && ((a0.Int == a0.Int) && ((a0.Text == []) && (((a0.At.X == 0) && ((a0.At.Y == 0) && true)) && true)))) = true then (if (a0.Int == 0) = true then (some true) else (some (a0.Int == 1))) else (some false)) else (if (a1.Type_ == 2) = true then (if ((a0.Null == false) && ((a0.Int == 0) && ((a0.Text == a0.Text) && (((a0.At.X == 0) && ((a0.At.Y == 0) && true)) && true)))) = true then (some (decide ((a0.Text.length : Int) ≤ 65536))) else (some false)) else (if (a1.Type_ == 3) = true then ((ref06_Right.f a0.At).bind fun v1 => (if v1 = true then (some ((a0.Null == false) && ((a0.Int == 0) && ((a0.Text == []) && (((a0.At.X == a0.At.X) && ((a0.At.Y == a0.At.Y) && true)) && true))))) else (some false))) else (some false)))))
theorem ref07_Right.ok (a0 : Cell) (a1 : Col) (S : Store) (r : Bool) (h : ref07_Right.f a0 a1 = some r) : ACalls Try.prog 50 [.ag (Cell.enc a0), .ag (Col.enc a1)] S (fun r_ S_ => r_ = bo r ∧ Own S [] S_ []) := by
  unfold ref07_Right.f at h
  refine acalls_of Try.func50 rfl ?_
  have hh := Own.nil (S := S)
  refine AT_forget 0x3 (mkS 67 [(0, .ag (Cell.enc a0)), (1, .ag (Col.enc a1))]) (by kernel_rfl) ?_
  refine zsr ?_
  refine AOps_box_im (ds := (Cell.enc a0)) (tl_get rfl) rfl rfl (by kernel_rfl) ?_
  refine fg [1, 2] ?_
  refine AOps_box_im (ds := (Col.enc a1)) (tl_get rfl) rfl rfl (by kernel_rfl) ?_
  refine fg [2, 3] ?_
  refine seg 1 [2, 3] [] [] (by kernel_rfl) (by kernel_rfl) ?_
  refine zn ?_
  refine AT_seq ?_
  refine zsr ?_
  refine seg 2 [2, 3, 7] [(7, bo a0.Null)] [] (by kernel_rfl) (by kernel_rfl) ?_
  refine zn ?_
  refine AT_condS a0.Null (by kernel_rfl) (fun hc1 => ?_) (fun hc1 => ?_)
  · rw [if_t hc1] at h
    refine zsr ?_
    refine seg 3 [2, 10] [(10, bo a1.Nullable)] [3, 4, 5, 6, 7] (by kernel_rfl) (by kernel_rfl) ?_
    refine cased 10 a1.Nullable (by kernel_rfl) (fun hc2 => ?_) (fun hc2 => ?_)
    · rw [if_t hc2] at h
      refine seg 5 [4] [(4, bo ((a0.Null == true) && ((a0.Int == 0) && ((a0.Text == []) && (((a0.At.X == 0) && ((a0.At.Y == 0) && true)) && true)))))] [] (by kernel_rfl) (by kernel_rfl) ?_
      refine zn ?_
      refine AT_ret ?_
      refine athen_r ?_
      have e_ := Option.some.inj h
      subst e_
      exact ⟨[bo ((a0.Null == true) && ((a0.Int == 0) && ((a0.Text == []) && (((a0.At.X == 0) && ((a0.At.Y == 0) && true)) && true))))], _, S, (.of (by kernel_rfl)), D.le.refl _, Store.le.refl _, rfl, hh⟩
    rw [if_f hc2] at h
    refine seg 5 [4] [(4, bo false)] [] (by kernel_rfl) (by kernel_rfl) ?_
    refine zn ?_
    refine AT_ret ?_
    refine athen_r ?_
    have e_ := Option.some.inj h
    subst e_
    exact ⟨[bo false], _, S, (.of (by kernel_rfl)), D.le.refl _, Store.le.refl _, rfl, hh⟩
  rw [if_f hc1] at h
  refine zkn ?_
  refine AT_seq ?_
  refine zsr ?_
  refine seg 2 [2, 16] [(16, i64 a1.Type_)] [] (by kernel_rfl) (by kernel_rfl) ?_
  refine zn ?_
  refine AT_block ?_
  refine zsr ?_
  refine seg 2 [2, 16, 17] [(17, bo (a1.Type_ == 0))] [] (by kernel_rfl) (by kernel_rfl) ?_
  refine zn ?_
  refine AT_condS (a1.Type_ == 0) (by kernel_rfl) (fun hc3 => ?_) (fun hc3 => ?_)
  · rw [if_t hc3] at h
    refine zsr ?_
    refine seg 6 [4] [(4, bo ((a0.Null == false) && ((a0.Int == a0.Int) && ((a0.Text == []) && (((a0.At.X == 0) && ((a0.At.Y == 0) && true)) && true)))))] [] (by kernel_rfl) (by kernel_rfl) ?_
    refine zn ?_
    refine AT_ret ?_
    refine ablock_r ?_
    refine athen_r ?_
    have e_ := Option.some.inj h
    subst e_
    exact ⟨[bo ((a0.Null == false) && ((a0.Int == a0.Int) && ((a0.Text == []) && (((a0.At.X == 0) && ((a0.At.Y == 0) && true)) && true))))], _, S, (.of (by kernel_rfl)), D.le.refl _, Store.le.refl _, rfl, hh⟩
  rw [if_f hc3] at h
  refine zsr ?_
  refine seg 2 [2, 16, 24] [(24, bo (a1.Type_ == 1))] [] (by kernel_rfl) (by kernel_rfl) ?_
  refine zn ?_
  refine AT_condS (a1.Type_ == 1) (by kernel_rfl) (fun hc4 => ?_) (fun hc4 => ?_)
  · rw [if_t hc4] at h
    refine zsr ?_
    refine seg 6 [2, 31] [(31, bo ((a0.Null == false) && ((a0.Int == a0.Int) && ((a0.Text == []) && (((a0.At.X == 0) && ((a0.At.Y == 0) && true)) && true)))))] [6, 7, 8, 9, 10, 11, 12, 13, 14, 15] (by kernel_rfl) (by kernel_rfl) ?_
    refine casedR 31 ((a0.Null == false) && ((a0.Int == a0.Int) && ((a0.Text == []) && (((a0.At.X == 0) && ((a0.At.Y == 0) && true)) && true)))) (by kernel_rfl) (fun hc5 => ?_) (fun hc5 => ?_)
    · rw [if_f hc5] at h
      refine AOps_seg 10 0x10 (mkS 67 [(4, bo false)]) none [] (by kernel_rfl) (by kernel_rfl) trivial ?_
      refine zn ?_
      refine AT_ret ?_
      refine ablock_r ?_
      refine athen_r ?_
      have e_ := Option.some.inj h
      subst e_
      exact ⟨[bo false], _, S, (.of (by kernel_rfl)), D.le.refl _, Store.le.refl _, rfl, hh⟩
    rw [if_t hc5] at h
    refine AOps_seg 4 0x880000004 (mkS 67 [(2, .pt (Cell.enc a0)), (31, bo true), (35, bo (a0.Int == 0))]) none [10, 11, 12, 13, 14, 15] (by kernel_rfl) (by kernel_rfl) trivial ?_
    refine cased 35 (a0.Int == 0) (by kernel_rfl) (fun hc6 => ?_) (fun hc6 => ?_)
    · rw [if_t hc6] at h
      refine seg 6 [4] [(4, bo true)] [] (by kernel_rfl) (by kernel_rfl) ?_
      refine zn ?_
      refine AT_ret ?_
      refine ablock_r ?_
      refine athen_r ?_
      have e_ := Option.some.inj h
      subst e_
      exact ⟨[bo true], _, S, (.of (by kernel_rfl)), D.le.refl _, Store.le.refl _, rfl, hh⟩
    rw [if_f hc6] at h
    refine seg 6 [4] [(4, bo (a0.Int == 1))] [] (by kernel_rfl) (by kernel_rfl) ?_
    refine zn ?_
    refine AT_ret ?_
    refine ablock_r ?_
    refine athen_r ?_
    have e_ := Option.some.inj h
    subst e_
    exact ⟨[bo (a0.Int == 1)], _, S, (.of (by kernel_rfl)), D.le.refl _, Store.le.refl _, rfl, hh⟩
  rw [if_f hc4] at h
  refine zsr ?_
  refine seg 2 [2, 16, 41] [(41, bo (a1.Type_ == 2))] [] (by kernel_rfl) (by kernel_rfl) ?_
  refine zn ?_
  refine AT_condS (a1.Type_ == 2) (by kernel_rfl) (fun hc7 => ?_) (fun hc7 => ?_)
  · rw [if_t hc7] at h
    refine zsr ?_
    refine AOps_seg 6 0x1000000000004 (mkS 67 [(2, .pt (Cell.enc a0)), (48, bo ((a0.Null == false) && ((a0.Int == 0) && ((a0.Text == a0.Text) && (((a0.At.X == 0) && ((a0.At.Y == 0) && true)) && true)))))]) none [6, 7, 8, 9, 10, 11] (by kernel_rfl) (by kernel_rfl) trivial ?_
    refine cased 48 ((a0.Null == false) && ((a0.Int == 0) && ((a0.Text == a0.Text) && (((a0.At.X == 0) && ((a0.At.Y == 0) && true)) && true)))) (by kernel_rfl) (fun hc8 => ?_) (fun hc8 => ?_)
    · rw [if_t hc8] at h
      refine seg 6 [4] [(4, bo (decide ((a0.Text.length : Int) ≤ 65536)))] [] (by kernel_rfl) (by kernel_rfl) ?_
      refine zn ?_
      refine AT_ret ?_
      refine ablock_r ?_
      refine athen_r ?_
      have e_ := Option.some.inj h
      subst e_
      exact ⟨[bo (decide ((a0.Text.length : Int) ≤ 65536))], _, S, (.of (by kernel_rfl)), D.le.refl _, Store.le.refl _, rfl, hh⟩
    rw [if_f hc8] at h
    refine seg 6 [4] [(4, bo false)] [] (by kernel_rfl) (by kernel_rfl) ?_
    refine zn ?_
    refine AT_ret ?_
    refine ablock_r ?_
    refine athen_r ?_
    have e_ := Option.some.inj h
    subst e_
    exact ⟨[bo false], _, S, (.of (by kernel_rfl)), D.le.refl _, Store.le.refl _, rfl, hh⟩
  rw [if_f hc7] at h
  refine zsr ?_
  refine AOps_seg 2 0x40000000000004 (mkS 67 [(2, .pt (Cell.enc a0)), (54, bo (a1.Type_ == 3))]) none [] (by kernel_rfl) (by kernel_rfl) trivial ?_
  refine zn ?_
  refine AT_condR (a1.Type_ == 3) (by kernel_rfl) (fun hc9 => ?_) (fun hc9 => ?_)
  · rw [if_f hc9] at h
    refine AT_skip ?_
    refine ablock_n ?_
    refine athen_n ?_
    refine zsr ?_
    refine seg 1 [4] [(4, bo false)] [] (by kernel_rfl) (by kernel_rfl) ?_
    refine zn ?_
    refine AT_ret ?_
    have e_ := Option.some.inj h
    subst e_
    exact ⟨[bo false], _, S, (.of (by kernel_rfl)), D.le.refl _, Store.le.refl _, rfl, hh⟩
  rw [if_t hc9] at h
  refine zsr ?_
  refine seg 2 [2, 57] [(57, .ag (Point.enc a0.At))] [2, 3] (by kernel_rfl) (by kernel_rfl) ?_
  obtain ⟨v1, ht1, h⟩ := bs h
  refine AOps_callR _ [.ag (Point.enc a0.At)] (tl_get rfl) rfl rfl rfl rfl Try.func66 (by decide) rfl ((.cons (D.le.refl _) (.nil))) (ref06_Right.ok a0.At _  _ ht1) ?_
  rintro _ S_ ⟨rfl, h2_⟩
  replace hh := hh.call0 h2_
  refine fg [2, 58] ?_
  refine seg 1 [2, 5] [(5, bo v1)] [] (by kernel_rfl) (by kernel_rfl) ?_
  refine znsr ?_
  refine seg 2 [2, 60] [(60, bo v1)] [2, 3, 4, 5, 6, 7, 8] (by kernel_rfl) (by kernel_rfl) ?_
  refine cased 60 v1 (by kernel_rfl) (fun hc10 => ?_) (fun hc10 => ?_)
  · rw [if_t hc10] at h
    refine seg 7 [4] [(4, bo ((a0.Null == false) && ((a0.Int == 0) && ((a0.Text == []) && (((a0.At.X == a0.At.X) && ((a0.At.Y == a0.At.Y) && true)) && true)))))] [] (by kernel_rfl) (by kernel_rfl) ?_
    refine zn ?_
    refine AT_ret ?_
    refine ablock_r ?_
    refine athen_r ?_
    have e_ := Option.some.inj h
    subst e_
    exact ⟨[bo ((a0.Null == false) && ((a0.Int == 0) && ((a0.Text == []) && (((a0.At.X == a0.At.X) && ((a0.At.Y == a0.At.Y) && true)) && true))))], _, S_, (.of (by kernel_rfl)), D.le.refl _, Store.le.refl _, rfl, hh⟩
  rw [if_f hc10] at h
  refine seg 7 [4] [(4, bo false)] [] (by kernel_rfl) (by kernel_rfl) ?_
  refine zn ?_
  refine AT_ret ?_
  refine ablock_r ?_
  refine athen_r ?_
  have e_ := Option.some.inj h
  subst e_
  exact ⟨[bo false], _, S_, (.of (by kernel_rfl)), D.le.refl _, Store.le.refl _, rfl, hh⟩
def ref07_ints.f (a0 : Int) (a1 : Int) : Option (Int) := if (decide (a0 < a1)) = true then (some (-1)) else (if (decide (a0 > a1)) = true then (some 1) else (some 0))
theorem ref07_ints.ok (a0 : Int) (a1 : Int) (S : Store) (r : Int) (h : ref07_ints.f a0 a1 = some r) : ACalls Try.prog 67 [i64 a0, i64 a1] S (fun r_ S_ => r_ = i64 r ∧ Own S [] S_ []) := by
  unfold ref07_ints.f at h
  refine acalls_of Try.func67 rfl ?_
  have hh := Own.nil (S := S)
  refine AT_forget 0x3 (mkS 11 [(0, i64 a0), (1, i64 a1)]) (by kernel_rfl) ?_
  refine zsr ?_
  refine seg 1 [0, 1] [] [] (by kernel_rfl) (by kernel_rfl) ?_
  refine zn ?_
  refine AT_seq ?_
  refine zsr ?_
  refine seg 3 [0, 1, 7] [(7, bo (decide (a0 < a1)))] [] (by kernel_rfl) (by kernel_rfl) ?_
  refine zn ?_
  refine AT_condS (decide (a0 < a1)) (by kernel_rfl) (fun hc1 => ?_) (fun hc1 => ?_)
  · rw [if_t hc1] at h
    refine zsr ?_
    refine seg 1 [4] [(4, i64 (-1))] [] (by kernel_rfl) (by kernel_rfl) ?_
    refine zn ?_
    refine AT_ret ?_
    refine athen_r ?_
    have e_ := Option.some.inj h
    subst e_
    exact ⟨[i64 (-1)], _, S, (.of (by kernel_rfl)), D.le.refl _, Store.le.refl _, rfl, hh⟩
  rw [if_f hc1] at h
  refine zkn ?_
  refine AT_seq ?_
  refine zsr ?_
  refine seg 3 [10] [(10, bo (decide (a0 > a1)))] [] (by kernel_rfl) (by kernel_rfl) ?_
  refine zn ?_
  refine AT_condS (decide (a0 > a1)) (by kernel_rfl) (fun hc2 => ?_) (fun hc2 => ?_)
  · rw [if_t hc2] at h
    refine zsr ?_
    refine seg 1 [4] [(4, i64 1)] [] (by kernel_rfl) (by kernel_rfl) ?_
    refine zn ?_
    refine AT_ret ?_
    refine athen_r ?_
    have e_ := Option.some.inj h
    subst e_
    exact ⟨[i64 1], _, S, (.of (by kernel_rfl)), D.le.refl _, Store.le.refl _, rfl, hh⟩
  rw [if_f hc2] at h
  refine zkn ?_
  refine zsr ?_
  refine seg 1 [4] [(4, i64 0)] [] (by kernel_rfl) (by kernel_rfl) ?_
  refine zn ?_
  refine AT_ret ?_
  have e_ := Option.some.inj h
  subst e_
  exact ⟨[i64 0], _, S, (.of (by kernel_rfl)), D.le.refl _, Store.le.refl _, rfl, hh⟩
def ref06_Norm.f (a0 : Point) : Option (Int) := some (IntKind.wrap .i64 ((IntKind.wrap .i64 (a0.X * a0.X)) + (IntKind.wrap .i64 (a0.Y * a0.Y))))
theorem ref06_Norm.ok (a0 : Point) (S : Store) (r : Int) (h : ref06_Norm.f a0 = some r) : ACalls Try.prog 78 [.ag (Point.enc a0)] S (fun r_ S_ => r_ = i64 r ∧ Own S [] S_ []) := by
  unfold ref06_Norm.f at h
  refine acalls_of Try.func78 rfl ?_
  have hh := Own.nil (S := S)
  refine AT_forget 0x1 (mkS 14 [(0, .ag (Point.enc a0))]) (by kernel_rfl) ?_
  refine zsr ?_
  refine AOps_box_im (ds := (Point.enc a0)) (tl_get rfl) rfl rfl (by kernel_rfl) ?_
  refine fg [1] ?_
  refine seg 1 [1] [] [] (by kernel_rfl) (by kernel_rfl) ?_
  refine znsr ?_
  refine seg 11 [13] [(13, i64 (IntKind.wrap .i64 ((IntKind.wrap .i64 (a0.X * a0.X)) + (IntKind.wrap .i64 (a0.Y * a0.Y)))))] [11] (by kernel_rfl) (by kernel_rfl) ?_
  refine seg 1 [2] [(2, i64 (IntKind.wrap .i64 ((IntKind.wrap .i64 (a0.X * a0.X)) + (IntKind.wrap .i64 (a0.Y * a0.Y)))))] [] (by kernel_rfl) (by kernel_rfl) ?_
  refine zn ?_
  refine AT_ret ?_
  have e_ := Option.some.inj h
  subst e_
  exact ⟨[i64 (IntKind.wrap .i64 ((IntKind.wrap .i64 (a0.X * a0.X)) + (IntKind.wrap .i64 (a0.Y * a0.Y))))], _, S, (.of (by kernel_rfl)), D.le.refl _, Store.le.refl _, rfl, hh⟩
def ref06_sign.f (a0 : Int) (a1 : Int) : Option (Int) := if (decide (a0 < a1)) = true then (some (-1)) else (if (decide (a0 > a1)) = true then (some 1) else (some 0))
theorem ref06_sign.ok (a0 : Int) (a1 : Int) (S : Store) (r : Int) (h : ref06_sign.f a0 a1 = some r) : ACalls Try.prog 79 [i64 a0, i64 a1] S (fun r_ S_ => r_ = i64 r ∧ Own S [] S_ []) := by
  unfold ref06_sign.f at h
  refine acalls_of Try.func79 rfl ?_
  have hh := Own.nil (S := S)
  refine AT_forget 0x3 (mkS 11 [(0, i64 a0), (1, i64 a1)]) (by kernel_rfl) ?_
  refine zsr ?_
  refine seg 1 [0, 1] [] [] (by kernel_rfl) (by kernel_rfl) ?_
  refine zn ?_
  refine AT_seq ?_
  refine zsr ?_
  refine seg 3 [0, 1, 7] [(7, bo (decide (a0 < a1)))] [] (by kernel_rfl) (by kernel_rfl) ?_
  refine zn ?_
  refine AT_condS (decide (a0 < a1)) (by kernel_rfl) (fun hc1 => ?_) (fun hc1 => ?_)
  · rw [if_t hc1] at h
    refine zsr ?_
    refine seg 1 [4] [(4, i64 (-1))] [] (by kernel_rfl) (by kernel_rfl) ?_
    refine zn ?_
    refine AT_ret ?_
    refine athen_r ?_
    have e_ := Option.some.inj h
    subst e_
    exact ⟨[i64 (-1)], _, S, (.of (by kernel_rfl)), D.le.refl _, Store.le.refl _, rfl, hh⟩
  rw [if_f hc1] at h
  refine zkn ?_
  refine AT_seq ?_
  refine zsr ?_
  refine seg 3 [10] [(10, bo (decide (a0 > a1)))] [] (by kernel_rfl) (by kernel_rfl) ?_
  refine zn ?_
  refine AT_condS (decide (a0 > a1)) (by kernel_rfl) (fun hc2 => ?_) (fun hc2 => ?_)
  · rw [if_t hc2] at h
    refine zsr ?_
    refine seg 1 [4] [(4, i64 1)] [] (by kernel_rfl) (by kernel_rfl) ?_
    refine zn ?_
    refine AT_ret ?_
    refine athen_r ?_
    have e_ := Option.some.inj h
    subst e_
    exact ⟨[i64 1], _, S, (.of (by kernel_rfl)), D.le.refl _, Store.le.refl _, rfl, hh⟩
  rw [if_f hc2] at h
  refine zkn ?_
  refine zsr ?_
  refine seg 1 [4] [(4, i64 0)] [] (by kernel_rfl) (by kernel_rfl) ?_
  refine zn ?_
  refine AT_ret ?_
  have e_ := Option.some.inj h
  subst e_
  exact ⟨[i64 0], _, S, (.of (by kernel_rfl)), D.le.refl _, Store.le.refl _, rfl, hh⟩
def ref06_Compare.f (a0 : Point) (a1 : Point) : Option (Int) := (ref06_Norm.f a0).bind fun v1 => ((ref06_Norm.f a1).bind fun v2 => (if (v1 != v2) = true then ((ref06_Norm.f a0).bind fun v3 => ((ref06_Norm.f a1).bind fun v4 => ((ref06_sign.f v3 v4).bind fun v5 => (some v5)))) else (if (a0.X != a1.X) = true then ((ref06_sign.f a0.X a1.X).bind fun v6 => (some v6)) else ((ref06_sign.f a0.Y a1.Y).bind fun v7 => (some v7)))))
theorem ref06_Compare.ok (a0 : Point) (a1 : Point) (S : Store) (r : Int) (h : ref06_Compare.f a0 a1 = some r) : ACalls Try.prog 68 [.ag (Point.enc a0), .ag (Point.enc a1)] S (fun r_ S_ => r_ = i64 r ∧ Own S [] S_ []) := by
  unfold ref06_Compare.f at h
  refine acalls_of Try.func68 rfl ?_
  have hh := Own.nil (S := S)
  refine AT_forget 0x3 (mkS 30 [(0, .ag (Point.enc a0)), (1, .ag (Point.enc a1))]) (by kernel_rfl) ?_
  refine zsr ?_
  refine AOps_box_im (ds := (Point.enc a0)) (tl_get rfl) rfl rfl (by kernel_rfl) ?_
  refine fg [1, 2] ?_
  refine AOps_box_im (ds := (Point.enc a1)) (tl_get rfl) rfl rfl (by kernel_rfl) ?_
  refine fg [2, 3] ?_
  refine seg 1 [2, 3] [] [] (by kernel_rfl) (by kernel_rfl) ?_
  refine zn ?_
  refine AT_seq ?_
  refine AT_seq ?_
  refine AT_draw [1, 3] 5 (fun _ => True) (by kernel_rfl) ?_
  refine aseg 5 [] [2, 3] [] #[false, false, false, false, false] (by kernel_rfl) (by kernel_rfl) ?_
  refine aseg 3 [0, 2] [2, 3, 5, 7] [(5, .ag (Point.enc a0)), (7, .ag (Point.enc a1))] #[true, false, true, false, false] (by kernel_rfl) (by kernel_rfl) ?_
  refine AAny_eff (fuel := 2) 1 (.inr trivial) (tl_get rfl) (by kernel_rfl) (by kernel_rfl) (by kernel_rfl) ?_
  obtain ⟨v1, ht1, h⟩ := bs h
  refine AOps_callR _ [.ag (Point.enc a0)] (tl_get rfl) rfl rfl rfl rfl Try.func78 (by decide) rfl ((.cons (D.le.refl _) (.nil))) (ref06_Norm.ok a0 _  _ ht1) ?_
  rintro _ S_ ⟨rfl, h2_⟩
  replace hh := hh.call0 h2_
  refine AOps_end ⟨rfl, _, rfl, ?_⟩; refine afg [2, 3, 6, 7] #[true, true, true, false, false] (by kernel_rfl) ?_
  refine AAny_eff (fuel := 1) 3 (.inr trivial) (tl_get rfl) (by kernel_rfl) (by kernel_rfl) (by kernel_rfl) ?_
  obtain ⟨v2, ht2, h⟩ := bs h
  refine AOps_callR _ [.ag (Point.enc a1)] (tl_get rfl) rfl rfl rfl rfl Try.func78 (by decide) rfl ((.cons (D.le.refl _) (.nil))) (ref06_Norm.ok a1 _  _ ht2) ?_
  rintro _ S_ ⟨rfl, h2_⟩
  replace hh := hh.call0 h2_
  refine AOps_end ⟨rfl, _, rfl, ?_⟩; refine afg [2, 3, 6, 8] #[true, true, true, true, false] (by kernel_rfl) ?_
  refine aseg 0 [4] [2, 3, 9] [(9, bo (v1 != v2))] #[true, true, true, true, true] (by kernel_rfl) (by kernel_rfl) ?_
  refine AAny_end (.inr trivial) (by kernel_rfl) ?_
  refine athen_n ?_
  refine AT_condS (v1 != v2) (by kernel_rfl) (fun hc1 => ?_) (fun hc1 => ?_)
  · rw [if_t hc1] at h
    refine AT_seq ?_
    refine AT_draw [1, 3, 4] 6 (fun _ => True) (by kernel_rfl) ?_
    refine AAny_seg 6 [] 0x7c1c (mkS 30 [(2, .pt (Point.enc a0)), (3, .pt (Point.enc a1))]) none #[false, false, false, false, false, false] (by kernel_rfl) trivial (by kernel_rfl) ?_
    refine aseg 4 [0, 2] [10, 12] [(10, .ag (Point.enc a0)), (12, .ag (Point.enc a1))] #[true, false, true, false, false, false] (by kernel_rfl) (by kernel_rfl) ?_
    refine AAny_eff (fuel := 3) 1 (.inr trivial) (tl_get rfl) (by kernel_rfl) (by kernel_rfl) (by kernel_rfl) ?_
    obtain ⟨v3, ht3, h⟩ := bs h
    refine AOps_callR _ [.ag (Point.enc a0)] (tl_get rfl) rfl rfl rfl rfl Try.func78 (by decide) rfl ((.cons (D.le.refl _) (.nil))) (ref06_Norm.ok a0 _  _ ht3) ?_
    rintro _ S_ ⟨rfl, h2_⟩
    replace hh := hh.call0 h2_
    refine AOps_end ⟨rfl, _, rfl, ?_⟩; refine afg [11, 12] #[true, true, true, false, false, false] (by kernel_rfl) ?_
    refine AAny_eff (fuel := 2) 3 (.inr trivial) (tl_get rfl) (by kernel_rfl) (by kernel_rfl) (by kernel_rfl) ?_
    obtain ⟨v4, ht4, h⟩ := bs h
    refine AOps_callR _ [.ag (Point.enc a1)] (tl_get rfl) rfl rfl rfl rfl Try.func78 (by decide) rfl ((.cons (D.le.refl _) (.nil))) (ref06_Norm.ok a1 _  _ ht4) ?_
    rintro _ S_ ⟨rfl, h2_⟩
    replace hh := hh.call0 h2_
    refine AOps_end ⟨rfl, _, rfl, ?_⟩; refine afg [11, 13] #[true, true, true, true, false, false] (by kernel_rfl) ?_
    refine AAny_eff (fuel := 1) 4 (.inr trivial) (tl_get rfl) (by kernel_rfl) (by kernel_rfl) (by kernel_rfl) ?_
    obtain ⟨v5, ht5, h⟩ := bs h
    refine AOps_callR _ [i64 v3, i64 v4] (tl_get rfl) rfl rfl rfl rfl Try.func79 (by decide) rfl ((.cons (D.le.refl _) (.cons (D.le.refl _) (.nil)))) (ref06_sign.ok v3 v4 _  _ ht5) ?_
    rintro _ S_ ⟨rfl, h2_⟩
    replace hh := hh.call0 h2_
    refine AOps_end ⟨rfl, _, rfl, ?_⟩; refine afg [14] #[true, true, true, true, true, false] (by kernel_rfl) ?_
    refine aseg 0 [5] [4] [(4, i64 v5)] #[true, true, true, true, true, true] (by kernel_rfl) (by kernel_rfl) ?_
    refine AAny_end (.inr trivial) (by kernel_rfl) ?_
    refine athen_n ?_
    refine AT_ret ?_
    refine athen_r ?_
    have e_ := Option.some.inj h
    subst e_
    exact ⟨[i64 v5], _, S_, (.of (by kernel_rfl)), D.le.refl _, Store.le.refl _, rfl, hh⟩
  rw [if_f hc1] at h
  refine zkn ?_
  refine AT_seq ?_
  refine zsr ?_
  refine AOps_seg 5 0x8000c (mkS 30 [(2, .pt (Point.enc a0)), (3, .pt (Point.enc a1)), (19, bo (a0.X != a1.X))]) none [] (by kernel_rfl) (by kernel_rfl) trivial ?_
  refine zn ?_
  refine AT_condS (a0.X != a1.X) (by kernel_rfl) (fun hc2 => ?_) (fun hc2 => ?_)
  · rw [if_t hc2] at h
    refine zsr ?_
    refine seg 4 [21, 23] [(21, i64 a0.X), (23, i64 a1.X)] [4, 5] (by kernel_rfl) (by kernel_rfl) ?_
    obtain ⟨v6, ht6, h⟩ := bs h
    refine AOps_callR _ [i64 a0.X, i64 a1.X] (tl_get rfl) rfl rfl rfl rfl Try.func79 (by decide) rfl ((.cons (D.le.refl _) (.cons (D.le.refl _) (.nil)))) (ref06_sign.ok a0.X a1.X _  _ ht6) ?_
    rintro _ S_ ⟨rfl, h2_⟩
    replace hh := hh.call0 h2_
    refine fg [24] ?_
    refine seg 1 [4] [(4, i64 v6)] [] (by kernel_rfl) (by kernel_rfl) ?_
    refine zn ?_
    refine AT_ret ?_
    refine athen_r ?_
    have e_ := Option.some.inj h
    subst e_
    exact ⟨[i64 v6], _, S_, (.of (by kernel_rfl)), D.le.refl _, Store.le.refl _, rfl, hh⟩
  rw [if_f hc2] at h
  refine zkn ?_
  refine zsr ?_
  refine seg 4 [26, 28] [(26, i64 a0.Y), (28, i64 a1.Y)] [4, 5] (by kernel_rfl) (by kernel_rfl) ?_
  obtain ⟨v7, ht7, h⟩ := bs h
  refine AOps_callR _ [i64 a0.Y, i64 a1.Y] (tl_get rfl) rfl rfl rfl rfl Try.func79 (by decide) rfl ((.cons (D.le.refl _) (.cons (D.le.refl _) (.nil)))) (ref06_sign.ok a0.Y a1.Y _  _ ht7) ?_
  rintro _ S_ ⟨rfl, h2_⟩
  replace hh := hh.call0 h2_
  refine fg [29] ?_
  refine seg 1 [4] [(4, i64 v7)] [] (by kernel_rfl) (by kernel_rfl) ?_
  refine zn ?_
  refine AT_ret ?_
  have e_ := Option.some.inj h
  subst e_
  exact ⟨[i64 v7], _, S_, (.of (by kernel_rfl)), D.le.refl _, Store.le.refl _, rfl, hh⟩
end Go.Proofs.Ytfaojkajlpojlaa.Abs
