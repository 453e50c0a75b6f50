/- What functions of the program compute, each with the proof that it does (printed by wip/gen/all2.py). -/
import Derived.Test.YtfaojkajlpojlaaV1
import Derived.KernelRfl
namespace Go.Proofs.Ytfaojkajlpojlaa.Abs
open Go
set_option maxRecDepth 100000
mutual
def footer_Right.l2 : Nat → Footer → Int → Int → Int → Int → Int → Int → Option (Bool)
  | 0, _, _, _, _, _, _, _ => none
  | k + 1, a0, x1, x3, x5, x6, x7, x8 => if (decide (x8 < ((rd ((rd a0.Groups x3 Group.zero).Chunks) x5 []).length : Int))) = true then (if 0 ≤ x8 ∧ x8 < ((rd ((rd a0.Groups x3 Group.zero).Chunks) x5 []).length : Int) then (if 0 ≤ x5 ∧ x5 < (a0.Cols.length : Int) then ((footer_page.f k (rd a0.Cols x5 Col.zero) (rd (rd ((rd a0.Groups x3 Group.zero).Chunks) x5 []) x8 PageInfo.zero)).bind fun v4 => (if (!v4) = true then (some false) else (if (decide (((rd (rd ((rd a0.Groups x3 Group.zero).Chunks) x5 []) x8 PageInfo.zero).Rows) > x7)) = true then (some false) else (if (decide (((rd (rd ((rd a0.Groups x3 Group.zero).Chunks) x5 []) x8 PageInfo.zero).Size) > x6)) = true then (some false) else (footer_Right.l2 k a0 x1 x3 x5 (IntKind.wrap .i64 (x6 - ((rd (rd ((rd a0.Groups x3 Group.zero).Chunks) x5 []) x8 PageInfo.zero).Size))) (IntKind.wrap .i64 (x7 - ((rd (rd ((rd a0.Groups x3 Group.zero).Chunks) x5 []) x8 PageInfo.zero).Rows))) (IntKind.wrap .i64 (x8 + 1))))))) else none) else none) else (if (decide (x7 > 0)) = true then (some false) else (footer_Right.l1 k a0 x1 x3 x6 (IntKind.wrap .i64 (x5 + 1))))
def footer_Right.l1 : Nat → Footer → Int → Int → Int → Int → Option (Bool)
  | 0, _, _, _, _, _ => none
  | k + 1, a0, x1, x3, x4, x5 => if (decide (x5 < (((rd a0.Groups x3 Group.zero).Chunks).length : Int))) = true then (if 0 ≤ x5 ∧ x5 < (((rd a0.Groups x3 Group.zero).Chunks).length : Int) then (footer_Right.l2 k a0 x1 x3 x5 x4 ((rd a0.Groups x3 Group.zero).Rows) 0) else none) else (footer_Right.l0 k a0 (IntKind.wrap .i64 (x1 - ((rd a0.Groups x3 Group.zero).Rows))) x4 (IntKind.wrap .i64 (x3 + 1)))
def footer_Right.l0 : Nat → Footer → Int → Int → Int → Option (Bool)
  | 0, _, _, _, _ => none
  | k + 1, a0, x1, x2, x3 => if (decide (x3 < (a0.Groups.length : Int))) = true then (if 0 ≤ x3 ∧ x3 < (a0.Groups.length : Int) then (if (decide (((rd a0.Groups x3 Group.zero).Rows) < 1)) = true then (some false) else (if (decide (((rd a0.Groups x3 Group.zero).Rows) > x1)) = true then (some false) else (if ((((rd a0.Groups x3 Group.zero).Chunks).length : Int) != (a0.Cols.length : Int)) = true then (some false) else (footer_Right.l1 k a0 x1 x3 x2 0)))) else none) else (some (x1 == 0))
end
def footer_Right.f (k : Nat) (a0 : Footer) : Option (Bool) := (cell_Cols.f k a0.Cols).bind fun v2 => (if (v2 != 0) = true then (some false) else (if (decide (a0.Rows < 0)) = true then (some false) else (if (decide (a0.Rows > 65536)) = true then (some false) else (footer_Right.l0 k a0 a0.Rows 1073741824 0))))
theorem footer_Right.mono_l : ∀ k, (∀ y0 y1 y2 y3 y4 y5 y6, LeO (footer_Right.l2 k y0 y1 y2 y3 y4 y5 y6) (footer_Right.l2 (k + 1) y0 y1 y2 y3 y4 y5 y6)) ∧ (∀ y0 y1 y2 y3 y4, LeO (footer_Right.l1 k y0 y1 y2 y3 y4) (footer_Right.l1 (k + 1) y0 y1 y2 y3 y4)) ∧ (∀ y0 y1 y2 y3, LeO (footer_Right.l0 k y0 y1 y2 y3) (footer_Right.l0 (k + 1) y0 y1 y2 y3))
  | 0 => ⟨fun _ _ _ _ _ _ _ r h => (by simp only [footer_Right.l2] at h; cases h), fun _ _ _ _ _ r h => (by simp only [footer_Right.l1] at h; cases h), fun _ _ _ _ r h => (by simp only [footer_Right.l0] at h; cases h)⟩
  | k + 1 => by
    have ih := footer_Right.mono_l k
    refine ⟨?_, ?_, ?_⟩
    · intro y0 y1 y2 y3 y4 y5 y6
      rw [footer_Right.l2, footer_Right.l2]
      repeat' first
        | exact LeO.refl _
        | exact LeO.none _
        | exact ih.1 _ _ _ _ _ _ _
        | exact ih.2.1 _ _ _ _ _
        | exact ih.2.2 _ _ _ _
        | exact cell_Cols.mono _ _
        | exact footer_page.mono _ _ _
        | refine LeO.ite ?_ ?_
        | refine LeO.bind ?_ (fun _ => ?_)
    · intro y0 y1 y2 y3 y4
      rw [footer_Right.l1, footer_Right.l1]
      repeat' first
        | exact LeO.refl _
        | exact LeO.none _
        | exact ih.1 _ _ _ _ _ _ _
        | exact ih.2.1 _ _ _ _ _
        | exact ih.2.2 _ _ _ _
        | exact cell_Cols.mono _ _
        | exact footer_page.mono _ _ _
        | refine LeO.ite ?_ ?_
        | refine LeO.bind ?_ (fun _ => ?_)
    · intro y0 y1 y2 y3
      rw [footer_Right.l0, footer_Right.l0]
      repeat' first
        | exact LeO.refl _
        | exact LeO.none _
        | exact ih.1 _ _ _ _ _ _ _
        | exact ih.2.1 _ _ _ _ _
        | exact ih.2.2 _ _ _ _
        | exact cell_Cols.mono _ _
        | exact footer_page.mono _ _ _
        | refine LeO.ite ?_ ?_
        | refine LeO.bind ?_ (fun _ => ?_)
theorem footer_Right.mono (k : Nat) (a0 : Footer) : LeO (footer_Right.f k a0) (footer_Right.f (k + 1) a0) := by
  unfold footer_Right.f
  repeat' first
    | exact LeO.refl _
    | exact LeO.none _
    | exact (footer_Right.mono_l k).1 _ _ _ _ _ _ _
    | exact (footer_Right.mono_l k).2.1 _ _ _ _ _
    | exact (footer_Right.mono_l k).2.2 _ _ _ _
    | exact cell_Cols.mono _ _
    | exact footer_page.mono _ _ _
    | refine LeO.ite ?_ ?_
    | refine LeO.bind ?_ (fun _ => ?_)
theorem footer_Right.ok (k : Nat) (a0 : Footer) (S : Store) (r : Bool) (h : footer_Right.f k a0 = some r) : ACalls Try.prog 12 [.ag (Footer.enc a0)] S (fun r_ S_ => r_ = bo r ∧ Own S [] S_ []) := by
  unfold footer_Right.f at h
  refine acalls_of Try.func12 rfl ?_
  have hh := Own.nil (S := S)
  refine AT_forget 0x1 (mkS 108 [(0, .ag (Footer.enc a0))]) (by kernel_rfl) ?_
  refine zsr ?_
  refine AOps_box_im (ds := (Footer.enc a0)) (tl_get rfl) rfl rfl (by kernel_rfl) ?_
  refine fg [1] ?_
  refine seg 1 [1] [] [] (by kernel_rfl) (by kernel_rfl) ?_
  refine zn ?_
  refine AT_seq ?_
  refine zsr ?_
  refine seg 2 [1, 13] [(13, .sl 3 (a0.Cols.map Col.enc) none)] [2, 3, 4, 5, 6, 7, 8, 9, 10, 11, 12, 13] (by kernel_rfl) (by kernel_rfl) ?_
  obtain ⟨v2, ht2, h⟩ := bs h
  refine AOps_callR _ [.sl 3 (a0.Cols.map Col.enc) none] (tl_get rfl) rfl rfl rfl rfl Try.func26 (by decide) rfl ((.cons (D.le.refl _) (.nil))) (cell_Cols.ok _ a0.Cols _  _ ht2) ?_
  rintro _ S_ ⟨rfl, h2_⟩
  replace hh := hh.call0 h2_
  refine fg [1, 14] ?_
  refine seg 2 [1, 16] [(16, bo (v2 != 0))] [5, 6, 7, 8, 9, 10, 11, 12, 13] (by kernel_rfl) (by kernel_rfl) ?_
  refine cased 16 (v2 != 0) (by kernel_rfl) (fun hc4 => ?_) (fun hc4 => ?_)
  · rw [if_t hc4] at h
    refine seg 9 [1, 25] [(25, bo true)] [] (by kernel_rfl) (by kernel_rfl) ?_
    refine zn ?_
    refine AT_cond_t (by kernel_rfl) ?_
    refine zsr ?_
    refine seg 1 [2] [(2, bo false)] [] (by kernel_rfl) (by kernel_rfl) ?_
    refine zn ?_
    refine AT_ret ?_
    refine athen_r ?_
    have e_ := Option.some.inj h
    subst e_
    exact ⟨[bo false], _, S_, (.of (by kernel_rfl)), D.le.refl _, Store.le.refl _, rfl, hh⟩
  rw [if_f hc4] at h
  refine seg 5 [1, 21] [(21, bo (decide (a0.Rows < 0)))] [10, 11, 12, 13] (by kernel_rfl) (by kernel_rfl) ?_
  refine cased 21 (decide (a0.Rows < 0)) (by kernel_rfl) (fun hc5 => ?_) (fun hc5 => ?_)
  · rw [if_t hc5] at h
    refine seg 4 [1, 25] [(25, bo true)] [] (by kernel_rfl) (by kernel_rfl) ?_
    refine zn ?_
    refine AT_cond_t (by kernel_rfl) ?_
    refine zsr ?_
    refine seg 1 [2] [(2, bo false)] [] (by kernel_rfl) (by kernel_rfl) ?_
    refine zn ?_
    refine AT_ret ?_
    refine athen_r ?_
    have e_ := Option.some.inj h
    subst e_
    exact ⟨[bo false], _, S_, (.of (by kernel_rfl)), D.le.refl _, Store.le.refl _, rfl, hh⟩
  rw [if_f hc5] at h
  refine seg 4 [1, 25] [(25, bo (decide (a0.Rows > 65536)))] [] (by kernel_rfl) (by kernel_rfl) ?_
  refine zn ?_
  refine AT_condS (decide (a0.Rows > 65536)) (by kernel_rfl) (fun hc6 => ?_) (fun hc6 => ?_)
  · rw [if_t hc6] at h
    refine zsr ?_
    refine seg 1 [2] [(2, bo false)] [] (by kernel_rfl) (by kernel_rfl) ?_
    refine zn ?_
    refine AT_ret ?_
    refine athen_r ?_
    have e_ := Option.some.inj h
    subst e_
    exact ⟨[bo false], _, S_, (.of (by kernel_rfl)), D.le.refl _, Store.le.refl _, rfl, hh⟩
  rw [if_f hc6] at h
  refine zkn ?_
  refine zsr ?_
  refine seg 4 [1, 3, 4] [(3, i64 a0.Rows), (4, i64 1073741824)] [] (by kernel_rfl) (by kernel_rfl) ?_
  refine zn ?_
  refine AT_seq ?_
  refine zsr ?_
  refine AOps_seg 3 0x6000001a (mkS 108 [(1, .pt (Footer.enc a0)), (3, i64 a0.Rows), (4, i64 1073741824), (29, .sl 2 (a0.Groups.map Group.enc) none), (30, i64 ((a0.Groups.map Group.enc).length : Int))]) none [3] (by kernel_rfl) (by kernel_rfl) trivial ?_
  refine tod 30 (i64 ((a0.Groups.map Group.enc).length : Int)) (i64 (a0.Groups.length : Int)) (by kernel_rfl) (by rw [List.length_map]) ?_
  refine seg 1 [1, 3, 4, 29, 30, 31] [(31, i64 0)] [] (by kernel_rfl) (by kernel_rfl) ?_
  refine zn ?_
  refine AT_block ?_
  refine AT_loopM 0xe000001a (fun k_ sl_ S_ => k_ ≤ k ∧ ∃ (x1 : Int), ∃ (x2 : Int), ∃ (x3 : Int), LeL sl_ (mkS 108 [(1, .pt (Footer.enc a0)), (3, i64 x1), (4, i64 x2), (29, .sl 2 (a0.Groups.map Group.enc) none), (30, i64 (a0.Groups.length : Int)), (31, i64 x3)]) ∧ footer_Right.l0 k_ a0 x1 x2 x3 = some r ∧ Own S [] S_ []) k ⟨Nat.le_refl _, a0.Rows, 1073741824, 0, (le_rf (by kernel_rfl)), h, hh⟩ ?_
  clear hh h
  rintro k' sl_ S_ ⟨hk_, x1, x2, x3, hl_, h, hh⟩
  refine AT_weaken hl_ ?_
  obtain _ | k1 := k'
  · cases h
  rw [footer_Right.l0] at h
  refine zsr ?_
  refine seg 1 [1, 3, 4, 29, 30, 31, 32] [(32, bo (decide (x3 < (a0.Groups.length : Int))))] [] (by kernel_rfl) (by kernel_rfl) ?_
  refine zn ?_
  refine AT_seq ?_
  refine AT_condR (decide (x3 < (a0.Groups.length : Int))) (by kernel_rfl) (fun hc7 => ?_) (fun hc7 => ?_)
  · rw [if_f hc7] at h
    refine AT_exit ?_
    refine athen_e ?_
    refine athen_e ?_
    refine ablock_h ?_
    refine athen_n ?_
    refine zsr ?_
    refine seg 3 [2] [(2, bo (x1 == 0))] [] (by kernel_rfl) (by kernel_rfl) ?_
    refine zn ?_
    refine AT_ret ?_
    have e_ := Option.some.inj h
    subst e_
    exact ⟨[bo (x1 == 0)], _, S_, (.of (by kernel_rfl)), D.le.refl _, Store.le.refl _, rfl, hh⟩
  rw [if_t hc7] at h
  refine zkn ?_
  refine AT_seq ?_
  refine AT_block ?_
  refine zsr ?_
  obtain ⟨hi2, h⟩ := is h
  refine segc 1 [1, 3, 4, 29, 30, 31, 33] [(33, .pt ((a0.Groups.map Group.enc).getD (x3 : Int).toNat []))] (0 ≤ x3 ∧ x3 < ((a0.Groups.map Group.enc).length : Int)) [1, 2, 3] (by kernel_rfl) (by kernel_rfl) (idx_ok hi2) ?_
  refine tod 33 (.pt ((a0.Groups.map Group.enc).getD (x3 : Int).toNat [])) (.pt (Group.enc (rd a0.Groups x3 Group.zero))) (by kernel_rfl) (by rw [pt_rd Group.enc a0.Groups x3 Group.zero hi2.1 hi2.2]) ?_
  refine seg 1 [1, 3, 4, 29, 30, 31, 34] [(34, .ag (Group.enc (rd a0.Groups x3 Group.zero)))] [2, 3] (by kernel_rfl) (by kernel_rfl) ?_
  refine AOps_newvar (zs := [i64 0, nilS]) (ds := (Group.enc (rd a0.Groups x3 Group.zero))) (d := 6) (tl_get rfl) rfl rfl rfl (by kernel_rfl) (by kernel_rfl) (tl_get rfl) (fun _ => rfl) rfl rfl (fun _ => rfl) rfl (by kernel_rfl) (by kernel_rfl) ?_
  refine AOps_forget 0xe000005a (mkS 108 [(1, .pt (Footer.enc a0)), (3, i64 x1), (4, i64 x2), (6, .pt (Group.enc (rd a0.Groups x3 Group.zero))), (29, .sl 2 (a0.Groups.map Group.enc) none), (30, i64 (a0.Groups.length : Int)), (31, i64 x3)]) (by kernel_rfl) ?_
  refine zn ?_
  refine AT_seq ?_
  refine zsr ?_
  refine seg 4 [1, 3, 4, 6, 29, 30, 31, 38] [(38, bo (decide (((rd a0.Groups x3 Group.zero).Rows) < 1)))] [4, 5, 6, 7, 8, 9, 10, 11, 12, 13, 14, 15, 16, 17] (by kernel_rfl) (by kernel_rfl) ?_
  refine cased 38 (decide (((rd a0.Groups x3 Group.zero).Rows) < 1)) (by kernel_rfl) (fun hc11 => ?_) (fun hc11 => ?_)
  · rw [if_t hc11] at h
    refine seg 14 [1, 3, 4, 6, 29, 30, 31, 52] [(52, bo true)] [] (by kernel_rfl) (by kernel_rfl) ?_
    refine zn ?_
    refine AT_cond_t (by kernel_rfl) ?_
    refine zsr ?_
    refine seg 1 [2] [(2, bo false)] [] (by kernel_rfl) (by kernel_rfl) ?_
    refine zn ?_
    refine AT_ret ?_
    refine athen_r ?_
    refine ablock_r ?_
    refine athen_r ?_
    refine athen_r ?_
    refine ablock_r ?_
    refine athen_r ?_
    have e_ := Option.some.inj h
    subst e_
    exact ⟨[bo false], _, S_, (.of (by kernel_rfl)), D.le.refl _, Store.le.refl _, rfl, hh⟩
  rw [if_f hc11] at h
  refine seg 6 [1, 3, 4, 6, 29, 30, 31, 44] [(44, bo (decide (((rd a0.Groups x3 Group.zero).Rows) > x1)))] [10, 11, 12, 13, 14, 15, 16, 17] (by kernel_rfl) (by kernel_rfl) ?_
  refine cased 44 (decide (((rd a0.Groups x3 Group.zero).Rows) > x1)) (by kernel_rfl) (fun hc12 => ?_) (fun hc12 => ?_)
  · rw [if_t hc12] at h
    refine seg 8 [1, 3, 4, 6, 29, 30, 31, 52] [(52, bo true)] [] (by kernel_rfl) (by kernel_rfl) ?_
    refine zn ?_
    refine AT_cond_t (by kernel_rfl) ?_
    refine zsr ?_
    refine seg 1 [2] [(2, bo false)] [] (by kernel_rfl) (by kernel_rfl) ?_
    refine zn ?_
    refine AT_ret ?_
    refine athen_r ?_
    refine ablock_r ?_
    refine athen_r ?_
    refine athen_r ?_
    refine ablock_r ?_
    refine athen_r ?_
    have e_ := Option.some.inj h
    subst e_
    exact ⟨[bo false], _, S_, (.of (by kernel_rfl)), D.le.refl _, Store.le.refl _, rfl, hh⟩
  rw [if_f hc12] at h
  refine seg 3 [1, 3, 4, 6, 29, 30, 31, 44, 47] [(47, i64 ((((rd a0.Groups x3 Group.zero).Chunks).map (eL 14 PageInfo.enc)).length : Int))] [13, 14, 15, 16, 17] (by kernel_rfl) (by kernel_rfl) ?_
  refine tod 47 (i64 ((((rd a0.Groups x3 Group.zero).Chunks).map (eL 14 PageInfo.enc)).length : Int)) (i64 (((rd a0.Groups x3 Group.zero).Chunks).length : Int)) (by kernel_rfl) (by rw [List.length_map]) ?_
  refine seg 3 [1, 3, 4, 6, 29, 30, 31, 44, 47, 50] [(50, i64 ((a0.Cols.map Col.enc).length : Int))] [16, 17] (by kernel_rfl) (by kernel_rfl) ?_
  refine tod 50 (i64 ((a0.Cols.map Col.enc).length : Int)) (i64 (a0.Cols.length : Int)) (by kernel_rfl) (by rw [List.length_map]) ?_
  refine seg 2 [1, 3, 4, 6, 29, 30, 31, 52] [(52, bo ((((rd a0.Groups x3 Group.zero).Chunks).length : Int) != (a0.Cols.length : Int)))] [] (by kernel_rfl) (by kernel_rfl) ?_
  refine zn ?_
  refine AT_condS ((((rd a0.Groups x3 Group.zero).Chunks).length : Int) != (a0.Cols.length : Int)) (by kernel_rfl) (fun hc13 => ?_) (fun hc13 => ?_)
  · rw [if_t hc13] at h
    refine zsr ?_
    refine seg 1 [2] [(2, bo false)] [] (by kernel_rfl) (by kernel_rfl) ?_
    refine zn ?_
    refine AT_ret ?_
    refine athen_r ?_
    refine ablock_r ?_
    refine athen_r ?_
    refine athen_r ?_
    refine ablock_r ?_
    refine athen_r ?_
    have e_ := Option.some.inj h
    subst e_
    exact ⟨[bo false], _, S_, (.of (by kernel_rfl)), D.le.refl _, Store.le.refl _, rfl, hh⟩
  rw [if_f hc13] at h
  refine zkn ?_
  refine zsr ?_
  refine seg 5 [1, 3, 4, 6, 29, 30, 31] [(3, i64 (IntKind.wrap .i64 (x1 - ((rd a0.Groups x3 Group.zero).Rows))))] [] (by kernel_rfl) (by kernel_rfl) ?_
  refine znsr ?_
  refine seg 3 [1, 3, 4, 6, 29, 30, 31, 58, 59] [(58, .sl 1 (((rd a0.Groups x3 Group.zero).Chunks).map (eL 14 PageInfo.enc)) none), (59, i64 ((((rd a0.Groups x3 Group.zero).Chunks).map (eL 14 PageInfo.enc)).length : Int))] [3] (by kernel_rfl) (by kernel_rfl) ?_
  refine tod 59 (i64 ((((rd a0.Groups x3 Group.zero).Chunks).map (eL 14 PageInfo.enc)).length : Int)) (i64 (((rd a0.Groups x3 Group.zero).Chunks).length : Int)) (by kernel_rfl) (by rw [List.length_map]) ?_
  refine seg 1 [1, 3, 4, 6, 29, 30, 31, 58, 59, 60] [(60, i64 0)] [] (by kernel_rfl) (by kernel_rfl) ?_
  refine zn ?_
  refine AT_block ?_
  refine AT_loopM 0x1c000000e000005a (fun k_ sl_ S_ => k_ ≤ k1 ∧ ∃ (x4 : Int), ∃ (x5 : Int), LeL sl_ (mkS 108 [(1, .pt (Footer.enc a0)), (3, i64 (IntKind.wrap .i64 (x1 - ((rd a0.Groups x3 Group.zero).Rows)))), (4, i64 x4), (6, .pt (Group.enc (rd a0.Groups x3 Group.zero))), (29, .sl 2 (a0.Groups.map Group.enc) none), (30, i64 (a0.Groups.length : Int)), (31, i64 x3), (58, .sl 1 (((rd a0.Groups x3 Group.zero).Chunks).map (eL 14 PageInfo.enc)) none), (59, i64 (((rd a0.Groups x3 Group.zero).Chunks).length : Int)), (60, i64 x5)]) ∧ footer_Right.l1 k_ a0 x1 x3 x4 x5 = some r ∧ Own S [] S_ []) k1 ⟨Nat.le_refl _, x2, 0, (le_rf (by kernel_rfl)), h, hh⟩ ?_
  clear hh h
  rintro k' sl_ S_ ⟨hk_, x4, x5, hl_, h, hh⟩
  refine AT_weaken hl_ ?_
  obtain _ | k2 := k'
  · cases h
  rw [footer_Right.l1] at h
  refine zsr ?_
  refine seg 1 [1, 3, 4, 6, 29, 30, 31, 58, 59, 60, 61] [(61, bo (decide (x5 < (((rd a0.Groups x3 Group.zero).Chunks).length : Int))))] [] (by kernel_rfl) (by kernel_rfl) ?_
  refine zn ?_
  refine AT_seq ?_
  refine AT_condR (decide (x5 < (((rd a0.Groups x3 Group.zero).Chunks).length : Int))) (by kernel_rfl) (fun hc14 => ?_) (fun hc14 => ?_)
  · rw [if_f hc14] at h
    refine AT_exit ?_
    refine athen_e ?_
    refine athen_e ?_
    refine ablock_h ?_
    refine ablock_n ?_
    refine athen_n ?_
    refine AT_region ?_
    refine seg 2 [1, 3, 4, 29, 30, 31] [(31, i64 (IntKind.wrap .i64 (x3 + 1)))] [] (by kernel_rfl) (by kernel_rfl) ?_
    refine zn ?_
    exact ⟨k2, (by omega), (by omega), IntKind.wrap .i64 (x1 - ((rd a0.Groups x3 Group.zero).Rows)), x4, IntKind.wrap .i64 (x3 + 1), (le_rf (by kernel_rfl)), h, hh⟩
  rw [if_t hc14] at h
  refine zkn ?_
  refine AT_seq ?_
  refine AT_block ?_
  refine zsr ?_
  obtain ⟨hi8, h⟩ := is h
  refine segc 2 [1, 3, 4, 6, 29, 30, 31, 58, 59, 60, 62, 63] [(62, i64 x5), (63, .pt ((((rd a0.Groups x3 Group.zero).Chunks).map (eL 14 PageInfo.enc)).getD (x5 : Int).toNat []))] (0 ≤ x5 ∧ x5 < ((((rd a0.Groups x3 Group.zero).Chunks).map (eL 14 PageInfo.enc)).length : Int)) [2, 3, 4] (by kernel_rfl) (by kernel_rfl) (idx_ok hi8) ?_
  refine tod 63 (.pt ((((rd a0.Groups x3 Group.zero).Chunks).map (eL 14 PageInfo.enc)).getD (x5 : Int).toNat [])) (.pt [.sl 14 ((rd ((rd a0.Groups x3 Group.zero).Chunks) x5 []).map PageInfo.enc) none]) (by kernel_rfl) (by rw [pt_rd (eL 14 PageInfo.enc) ((rd a0.Groups x3 Group.zero).Chunks) x5 [] hi8.1 hi8.2]) ?_
  refine seg 3 [1, 3, 4, 6, 7, 8, 29, 30, 31, 58, 59, 60] [(7, i64 x5), (8, .sl 14 ((rd ((rd a0.Groups x3 Group.zero).Chunks) x5 []).map PageInfo.enc) none)] [] (by kernel_rfl) (by kernel_rfl) ?_
  refine znsr ?_
  refine seg 3 [1, 3, 4, 6, 7, 8, 9, 29, 30, 31, 58, 59, 60] [(9, i64 ((rd a0.Groups x3 Group.zero).Rows))] [] (by kernel_rfl) (by kernel_rfl) ?_
  refine zn ?_
  refine AT_seq ?_
  refine zsr ?_
  refine seg 2 [1, 3, 4, 6, 7, 9, 29, 30, 31, 58, 59, 60, 67, 68] [(67, .sl 14 ((rd ((rd a0.Groups x3 Group.zero).Chunks) x5 []).map PageInfo.enc) none), (68, i64 (((rd ((rd a0.Groups x3 Group.zero).Chunks) x5 []).map PageInfo.enc).length : Int))] [2] (by kernel_rfl) (by kernel_rfl) ?_
  refine tod 68 (i64 (((rd ((rd a0.Groups x3 Group.zero).Chunks) x5 []).map PageInfo.enc).length : Int)) (i64 ((rd ((rd a0.Groups x3 Group.zero).Chunks) x5 []).length : Int)) (by kernel_rfl) (by rw [List.length_map]) ?_
  refine seg 1 [1, 3, 4, 6, 7, 9, 29, 30, 31, 58, 59, 60, 67, 68, 69] [(69, i64 0)] [] (by kernel_rfl) (by kernel_rfl) ?_
  refine zn ?_
  refine AT_block ?_
  refine AT_loopM 0x381c000000e00002da (fun k_ sl_ S_ => k_ ≤ k2 ∧ ∃ (x6 : Int), ∃ (x7 : Int), ∃ (x8 : Int), LeL sl_ (mkS 108 [(1, .pt (Footer.enc a0)), (3, i64 (IntKind.wrap .i64 (x1 - ((rd a0.Groups x3 Group.zero).Rows)))), (4, i64 x6), (6, .pt (Group.enc (rd a0.Groups x3 Group.zero))), (7, i64 x5), (9, i64 x7), (29, .sl 2 (a0.Groups.map Group.enc) none), (30, i64 (a0.Groups.length : Int)), (31, i64 x3), (58, .sl 1 (((rd a0.Groups x3 Group.zero).Chunks).map (eL 14 PageInfo.enc)) none), (59, i64 (((rd a0.Groups x3 Group.zero).Chunks).length : Int)), (60, i64 x5), (67, .sl 14 ((rd ((rd a0.Groups x3 Group.zero).Chunks) x5 []).map PageInfo.enc) none), (68, i64 ((rd ((rd a0.Groups x3 Group.zero).Chunks) x5 []).length : Int)), (69, i64 x8)]) ∧ footer_Right.l2 k_ a0 x1 x3 x5 x6 x7 x8 = some r ∧ Own S [] S_ []) k2 ⟨Nat.le_refl _, x4, (rd a0.Groups x3 Group.zero).Rows, 0, (le_rf (by kernel_rfl)), h, hh⟩ ?_
  clear hh h
  rintro k' sl_ S_ ⟨hk_, x6, x7, x8, hl_, h, hh⟩
  refine AT_weaken hl_ ?_
  obtain _ | k3 := k'
  · cases h
  rw [footer_Right.l2] at h
  refine zsr ?_
  refine seg 1 [1, 3, 4, 6, 7, 9, 29, 30, 31, 58, 59, 60, 67, 68, 69, 70] [(70, bo (decide (x8 < ((rd ((rd a0.Groups x3 Group.zero).Chunks) x5 []).length : Int))))] [] (by kernel_rfl) (by kernel_rfl) ?_
  refine zn ?_
  refine AT_seq ?_
  refine AT_condR (decide (x8 < ((rd ((rd a0.Groups x3 Group.zero).Chunks) x5 []).length : Int))) (by kernel_rfl) (fun hc15 => ?_) (fun hc15 => ?_)
  · rw [if_f hc15] at h
    refine AT_exit ?_
    refine athen_e ?_
    refine athen_e ?_
    refine ablock_h ?_
    refine athen_n ?_
    refine zsr ?_
    refine seg 2 [1, 3, 4, 6, 29, 30, 31, 58, 59, 60, 103] [(103, bo (decide (x7 > 0)))] [] (by kernel_rfl) (by kernel_rfl) ?_
    refine zn ?_
    refine AT_condR (decide (x7 > 0)) (by kernel_rfl) (fun hc22 => ?_) (fun hc22 => ?_)
    · rw [if_f hc22] at h
      refine AT_skip ?_
      refine ablock_n ?_
      refine athen_n ?_
      refine AT_region ?_
      refine seg 2 [1, 3, 4, 6, 29, 30, 31, 58, 59, 60] [(60, i64 (IntKind.wrap .i64 (x5 + 1)))] [] (by kernel_rfl) (by kernel_rfl) ?_
      refine zn ?_
      exact ⟨k3, (by omega), (by omega), x6, IntKind.wrap .i64 (x5 + 1), (le_rf (by kernel_rfl)), h, hh⟩
    rw [if_t hc22] at h
    refine zsr ?_
    refine seg 1 [2] [(2, bo false)] [] (by kernel_rfl) (by kernel_rfl) ?_
    refine zn ?_
    refine AT_ret ?_
    refine ablock_r ?_
    refine athen_r ?_
    refine athen_r ?_
    refine ablock_r ?_
    refine ablock_r ?_
    refine athen_r ?_
    refine athen_r ?_
    refine ablock_r ?_
    refine athen_r ?_
    have e_ := Option.some.inj h
    subst e_
    exact ⟨[bo false], _, S_, (.of (by kernel_rfl)), D.le.refl _, Store.le.refl _, rfl, hh⟩
  rw [if_t hc15] at h
  refine zkn ?_
  refine AT_seq ?_
  refine AT_block ?_
  refine zsr ?_
  obtain ⟨hi10, h⟩ := is h
  refine segc 1 [1, 3, 4, 6, 7, 9, 29, 30, 31, 58, 59, 60, 67, 68, 69, 71] [(71, .pt (((rd ((rd a0.Groups x3 Group.zero).Chunks) x5 []).map PageInfo.enc).getD (x8 : Int).toNat []))] (0 ≤ x8 ∧ x8 < (((rd ((rd a0.Groups x3 Group.zero).Chunks) x5 []).map PageInfo.enc).length : Int)) [1, 2, 3] (by kernel_rfl) (by kernel_rfl) (idx_ok hi10) ?_
  refine tod 71 (.pt (((rd ((rd a0.Groups x3 Group.zero).Chunks) x5 []).map PageInfo.enc).getD (x8 : Int).toNat [])) (.pt (PageInfo.enc (rd (rd ((rd a0.Groups x3 Group.zero).Chunks) x5 []) x8 PageInfo.zero))) (by kernel_rfl) (by rw [pt_rd PageInfo.enc (rd ((rd a0.Groups x3 Group.zero).Chunks) x5 []) x8 PageInfo.zero hi10.1 hi10.2]) ?_
  refine seg 1 [1, 3, 4, 6, 7, 9, 29, 30, 31, 58, 59, 60, 67, 68, 69, 72] [(72, .ag (PageInfo.enc (rd (rd ((rd a0.Groups x3 Group.zero).Chunks) x5 []) x8 PageInfo.zero)))] [2, 3] (by kernel_rfl) (by kernel_rfl) ?_
  refine AOps_newvar (zs := [i64 0, i64 0, i64 0, bo false, bo false, i64 0, str [], i64 0, i64 0, bo false, i64 0, str [], i64 0, i64 0]) (ds := (PageInfo.enc (rd (rd ((rd a0.Groups x3 Group.zero).Chunks) x5 []) x8 PageInfo.zero))) (d := 11) (tl_get rfl) rfl rfl rfl (by kernel_rfl) (by kernel_rfl) (tl_get rfl) (fun _ => rfl) rfl rfl (fun _ => rfl) rfl (by kernel_rfl) (by kernel_rfl) ?_
  refine AOps_forget 0x381c000000e0000ada (mkS 108 [(1, .pt (Footer.enc a0)), (3, i64 (IntKind.wrap .i64 (x1 - ((rd a0.Groups x3 Group.zero).Rows)))), (4, i64 x6), (6, .pt (Group.enc (rd a0.Groups x3 Group.zero))), (7, i64 x5), (9, i64 x7), (11, .pt (PageInfo.enc (rd (rd ((rd a0.Groups x3 Group.zero).Chunks) x5 []) x8 PageInfo.zero))), (29, .sl 2 (a0.Groups.map Group.enc) none), (30, i64 (a0.Groups.length : Int)), (31, i64 x3), (58, .sl 1 (((rd a0.Groups x3 Group.zero).Chunks).map (eL 14 PageInfo.enc)) none), (59, i64 (((rd a0.Groups x3 Group.zero).Chunks).length : Int)), (60, i64 x5), (67, .sl 14 ((rd ((rd a0.Groups x3 Group.zero).Chunks) x5 []).map PageInfo.enc) none), (68, i64 ((rd ((rd a0.Groups x3 Group.zero).Chunks) x5 []).length : Int)), (69, i64 x8)]) (by kernel_rfl) ?_
  refine zn ?_
  refine AT_seq ?_
  refine AT_seq ?_
  refine AT_draw [6] 20 (fun _ => True) (by kernel_rfl) ?_
  refine aseg 20 [] [1, 3, 4, 6, 7, 9, 11, 29, 30, 31, 58, 59, 60, 67, 68, 69] [] #[false, false, false, false, false, false, false, false, false, false, false, false, false, false, false, false, false, false, false, false] (by kernel_rfl) (by kernel_rfl) ?_
  obtain ⟨hi12, h⟩ := is h
  refine asegc 16 [0, 1, 2, 3] [1, 3, 4, 6, 7, 9, 11, 29, 30, 31, 58, 59, 60, 67, 68, 69, 76] [(76, .pt ((a0.Cols.map Col.enc).getD (x5 : Int).toNat []))] (0 ≤ x5 ∧ x5 < ((a0.Cols.map Col.enc).length : Int)) #[true, true, true, true, false, false, false, false, false, false, false, false, false, false, false, false, false, false, false, false] (by kernel_rfl) (idx_ok hi12) (by kernel_rfl) ?_
  refine atod 76 (.pt ((a0.Cols.map Col.enc).getD (x5 : Int).toNat [])) (.pt (Col.enc (rd a0.Cols x5 Col.zero))) (by kernel_rfl) (by rw [pt_rd Col.enc a0.Cols x5 Col.zero hi12.1 hi12.2]) ?_
  refine aseg 14 [4, 5] [1, 3, 4, 6, 7, 9, 11, 29, 30, 31, 58, 59, 60, 67, 68, 69, 77, 78] [(77, .ag (Col.enc (rd a0.Cols x5 Col.zero))), (78, .ag (PageInfo.enc (rd (rd ((rd a0.Groups x3 Group.zero).Chunks) x5 []) x8 PageInfo.zero)))] #[true, true, true, true, true, true, false, false, false, false, false, false, false, false, false, false, false, false, false, false] (by kernel_rfl) (by kernel_rfl) ?_
  refine AAny_eff (fuel := 13) 6 (.inr trivial) (tl_get rfl) (by kernel_rfl) (by kernel_rfl) (by kernel_rfl) ?_
  obtain ⟨v4, ht4, h⟩ := bs h
  refine AOps_callR _ [.ag (Col.enc (rd a0.Cols x5 Col.zero)), .ag (PageInfo.enc (rd (rd ((rd a0.Groups x3 Group.zero).Chunks) x5 []) x8 PageInfo.zero))] (tl_get rfl) rfl rfl rfl rfl Try.func27 (by decide) rfl ((.cons (D.le.refl _) (.cons (D.le.refl _) (.nil)))) (footer_page.ok _ (rd a0.Cols x5 Col.zero) (rd (rd ((rd a0.Groups x3 Group.zero).Chunks) x5 []) x8 PageInfo.zero) _  _ ht4) ?_
  rintro _ S_ ⟨rfl, h2_⟩
  replace hh := hh.call0 h2_
  refine AOps_end ⟨rfl, _, rfl, ?_⟩; refine afg [1, 3, 4, 6, 7, 9, 11, 29, 30, 31, 58, 59, 60, 67, 68, 69, 79] #[true, true, true, true, true, true, true, false, false, false, false, false, false, false, false, false, false, false, false, false] (by kernel_rfl) ?_
  refine aseg 11 [7, 8] [1, 3, 4, 6, 7, 9, 11, 29, 30, 31, 58, 59, 60, 67, 68, 69, 81] [(81, bo (!v4))] #[true, true, true, true, true, true, true, true, true, false, false, false, false, false, false, false, false, false, false, false] (by kernel_rfl) (by kernel_rfl) ?_
  refine acased 81 (!v4) (by kernel_rfl) (fun hc19 => ?_) (fun hc19 => ?_)
  · rw [if_t hc19] at h
    refine aseg 0 [9, 10, 11, 12, 13, 14, 15, 16, 17, 18, 19] [1, 3, 4, 6, 7, 9, 11, 29, 30, 31, 58, 59, 60, 67, 68, 69, 92] [(92, bo true)] #[true, true, true, true, true, true, true, true, true, true, true, true, true, true, true, true, true, true, true, true] (by kernel_rfl) (by kernel_rfl) ?_
    refine AAny_end (.inr trivial) (by kernel_rfl) ?_
    refine athen_n ?_
    refine AT_cond_t (by kernel_rfl) ?_
    refine zsr ?_
    refine seg 1 [2] [(2, bo false)] [] (by kernel_rfl) (by kernel_rfl) ?_
    refine zn ?_
    refine AT_ret ?_
    refine athen_r ?_
    refine ablock_r ?_
    refine athen_r ?_
    refine athen_r ?_
    refine ablock_r ?_
    refine athen_r ?_
    refine ablock_r ?_
    refine athen_r ?_
    refine athen_r ?_
    refine ablock_r ?_
    refine ablock_r ?_
    refine athen_r ?_
    refine athen_r ?_
    refine ablock_r ?_
    refine athen_r ?_
    have e_ := Option.some.inj h
    subst e_
    exact ⟨[bo false], _, S_, (.of (by kernel_rfl)), D.le.refl _, Store.le.refl _, rfl, hh⟩
  rw [if_f hc19] at h
  refine aseg 5 [9, 10, 11, 12, 13, 14] [1, 3, 4, 6, 7, 9, 11, 29, 30, 31, 58, 59, 60, 67, 68, 69, 87] [(87, bo (decide (((rd (rd ((rd a0.Groups x3 Group.zero).Chunks) x5 []) x8 PageInfo.zero).Rows) > x7)))] #[true, true, true, true, true, true, true, true, true, true, true, true, true, true, true, false, false, false, false, false] (by kernel_rfl) (by kernel_rfl) ?_
  refine acased 87 (decide (((rd (rd ((rd a0.Groups x3 Group.zero).Chunks) x5 []) x8 PageInfo.zero).Rows) > x7)) (by kernel_rfl) (fun hc20 => ?_) (fun hc20 => ?_)
  · rw [if_t hc20] at h
    refine aseg 0 [15, 16, 17, 18, 19] [1, 3, 4, 6, 7, 9, 11, 29, 30, 31, 58, 59, 60, 67, 68, 69, 92] [(92, bo true)] #[true, true, true, true, true, true, true, true, true, true, true, true, true, true, true, true, true, true, true, true] (by kernel_rfl) (by kernel_rfl) ?_
    refine AAny_end (.inr trivial) (by kernel_rfl) ?_
    refine athen_n ?_
    refine AT_cond_t (by kernel_rfl) ?_
    refine zsr ?_
    refine seg 1 [2] [(2, bo false)] [] (by kernel_rfl) (by kernel_rfl) ?_
    refine zn ?_
    refine AT_ret ?_
    refine athen_r ?_
    refine ablock_r ?_
    refine athen_r ?_
    refine athen_r ?_
    refine ablock_r ?_
    refine athen_r ?_
    refine ablock_r ?_
    refine athen_r ?_
    refine athen_r ?_
    refine ablock_r ?_
    refine ablock_r ?_
    refine athen_r ?_
    refine athen_r ?_
    refine ablock_r ?_
    refine athen_r ?_
    have e_ := Option.some.inj h
    subst e_
    exact ⟨[bo false], _, S_, (.of (by kernel_rfl)), D.le.refl _, Store.le.refl _, rfl, hh⟩
  rw [if_f hc20] at h
  refine aseg 0 [15, 16, 17, 18, 19] [1, 3, 4, 6, 7, 9, 11, 29, 30, 31, 58, 59, 60, 67, 68, 69, 92] [(92, bo (decide (((rd (rd ((rd a0.Groups x3 Group.zero).Chunks) x5 []) x8 PageInfo.zero).Size) > x6)))] #[true, true, true, true, true, true, true, true, true, true, true, true, true, true, true, true, true, true, true, true] (by kernel_rfl) (by kernel_rfl) ?_
  refine AAny_end (.inr trivial) (by kernel_rfl) ?_
  refine athen_n ?_
  refine AT_condR (decide (((rd (rd ((rd a0.Groups x3 Group.zero).Chunks) x5 []) x8 PageInfo.zero).Size) > x6)) (by kernel_rfl) (fun hc21 => ?_) (fun hc21 => ?_)
  · rw [if_f hc21] at h
    refine zkn ?_
    refine AT_draw [] 10 (fun _ => True) (by kernel_rfl) ?_
    refine aseg 10 [] [1, 3, 4, 6, 7, 9, 11, 29, 30, 31, 58, 59, 60, 67, 68, 69] [] #[false, false, false, false, false, false, false, false, false, false] (by kernel_rfl) (by kernel_rfl) ?_
    refine AAny_seg 0 [0, 1, 2, 3, 4, 5, 6, 7, 8, 9] 0x381c000000e00002da (mkS 108 [(1, .pt (Footer.enc a0)), (3, i64 (IntKind.wrap .i64 (x1 - ((rd a0.Groups x3 Group.zero).Rows)))), (4, i64 (IntKind.wrap .i64 (x6 - ((rd (rd ((rd a0.Groups x3 Group.zero).Chunks) x5 []) x8 PageInfo.zero).Size)))), (6, .pt (Group.enc (rd a0.Groups x3 Group.zero))), (7, i64 x5), (9, i64 (IntKind.wrap .i64 (x7 - ((rd (rd ((rd a0.Groups x3 Group.zero).Chunks) x5 []) x8 PageInfo.zero).Rows)))), (29, .sl 2 (a0.Groups.map Group.enc) none), (30, i64 (a0.Groups.length : Int)), (31, i64 x3), (58, .sl 1 (((rd a0.Groups x3 Group.zero).Chunks).map (eL 14 PageInfo.enc)) none), (59, i64 (((rd a0.Groups x3 Group.zero).Chunks).length : Int)), (60, i64 x5), (67, .sl 14 ((rd ((rd a0.Groups x3 Group.zero).Chunks) x5 []).map PageInfo.enc) none), (68, i64 ((rd ((rd a0.Groups x3 Group.zero).Chunks) x5 []).length : Int)), (69, i64 x8)]) none #[true, true, true, true, true, true, true, true, true, true] (by kernel_rfl) trivial (by kernel_rfl) ?_
    refine AAny_end (.inr trivial) (by kernel_rfl) ?_
    refine ablock_n ?_
    refine athen_n ?_
    refine AT_region ?_
    refine seg 2 [1, 3, 4, 6, 7, 9, 29, 30, 31, 58, 59, 60, 67, 68, 69] [(69, i64 (IntKind.wrap .i64 (x8 + 1)))] [] (by kernel_rfl) (by kernel_rfl) ?_
    refine zn ?_
    exact ⟨k3, (by omega), (by omega), IntKind.wrap .i64 (x6 - ((rd (rd ((rd a0.Groups x3 Group.zero).Chunks) x5 []) x8 PageInfo.zero).Size)), IntKind.wrap .i64 (x7 - ((rd (rd ((rd a0.Groups x3 Group.zero).Chunks) x5 []) x8 PageInfo.zero).Rows)), IntKind.wrap .i64 (x8 + 1), (le_rf (by kernel_rfl)), h, hh⟩
  rw [if_t hc21] at h
  refine zsr ?_
  refine seg 1 [2] [(2, bo false)] [] (by kernel_rfl) (by kernel_rfl) ?_
  refine zn ?_
  refine AT_ret ?_
  refine athen_r ?_
  refine ablock_r ?_
  refine athen_r ?_
  refine athen_r ?_
  refine ablock_r ?_
  refine athen_r ?_
  refine ablock_r ?_
  refine athen_r ?_
  refine athen_r ?_
  refine ablock_r ?_
  refine ablock_r ?_
  refine athen_r ?_
  refine athen_r ?_
  refine ablock_r ?_
  refine athen_r ?_
  have e_ := Option.some.inj h
  subst e_
  exact ⟨[bo false], _, S_, (.of (by kernel_rfl)), D.le.refl _, Store.le.refl _, rfl, hh⟩
def slices_Clone_byte.f (a0 : (List UInt8)) : Option ((List UInt8)) := if a0.isEmpty = true then (some ([] : List UInt8)) else (if (([] : List UInt8).length + a0.length) * 1 ≤ 140737488355328 then (some (([] : List UInt8) ++ a0)) else none)
theorem slices_Clone_byte.ok (a0 : (List UInt8)) (S : Store) (r : (List UInt8)) (h : slices_Clone_byte.f a0 = some r) : ACalls Try.prog 29 [.sl 1 (a0.map eB) none] S (fun r_ S_ => ∃ (u0 : Nat), r_ = .sl 1 (r.map eB) (some u0) ∧ Own S [] S_ [.t u0 (r).length 1]) := by
  unfold slices_Clone_byte.f at h
  refine acalls_of Try.func29 rfl ?_
  have hh := Own.nil (S := S)
  refine AT_forget 0x1 (mkS 8 [(0, .sl 1 (a0.map eB) none)]) (by kernel_rfl) ?_
  refine zsr ?_
  refine seg 1 [0] [] [] (by kernel_rfl) (by kernel_rfl) ?_
  refine zn ?_
  refine AT_seq ?_
  refine zsr ?_
  refine seg 1 [0, 3] [(3, .sl 1 (a0.map eB) none)] [1] (by kernel_rfl) (by kernel_rfl) ?_
  refine AOps_eqNil (es := a0.map eB) (tl_get rfl) rfl rfl rfl rfl rfl (fun b1 hb1 => ?_)
  by_cases he1 : a0.isEmpty = true
  · rw [if_pos he1] at h
    have e_ : a0 = [] := List.isEmpty_iff.1 he1
    cases b1 with
    | true =>
      refine fg [0, 4] ?_
      refine zn ?_
      refine AT_cond_t (by kernel_rfl) ?_
      refine zsr ?_
      refine seg 1 [2] [(2, nilS)] [] (by kernel_rfl) (by kernel_rfl) ?_
      refine zn ?_
      refine AT_nilU 2 1 (fun tk_ => mkS 8 [(2, .sl 1 [] (some tk_))]) (by kernel_rfl) (fun tk_ => by kernel_rfl) (fun S_ t2 hf_ u_ => ?_)
      replace hh := hh.tkN' hf_ u_ (n := (([] : List UInt8)).length) (by first | rfl | (simp [bytesD_len]; done) | (simp [bytesD_len]; omega))
      refine AT_ret ?_
      refine athen_r ?_
      have e_ := Option.some.inj h
      subst e_
      exact ⟨[.sl 1 [] (some t2)], _, S_, (.of (by kernel_rfl)), D.le.refl _, Store.le.refl _, t2, rfl, hh⟩
    | false =>
      have h : (if (([] : List UInt8).length + a0.length) * 1 ≤ 140737488355328 then (some (([] : List UInt8) ++ a0)) else none) = some r := by first | simpa [e_] using h | (simp [e_] at h ⊢; exact h)
      refine fg [0, 4] ?_
      refine zn ?_
      refine AT_cond_f (by kernel_rfl) ?_
      refine zkn ?_
      refine zsr ?_
      refine AOps_litU (sz := 1) (es := []) (tl_get rfl) rfl rfl rfl (by kernel_rfl) (by decide) (by kernel_rfl) (by decide) (by kernel_rfl) (by kernel_rfl) (by intro x hx; cases hx) (fun S_ t3 hf_ u_ => ?_)
      replace hh := hh.tkN' hf_ u_ (n := (([] : List UInt8)).length) (by first | rfl | (simp [bytesD_len]; done) | (simp [bytesD_len]; omega))
      refine fg [0, 5] ?_
      refine seg 1 [5, 6] [(6, .sl 1 (a0.map eB) none)] [2, 3] (by kernel_rfl) (by kernel_rfl) ?_
      obtain ⟨hl2, h⟩ := is h
      refine AOps_appendU (bytes := 1) (es := []) (xs := a0.map eB) (tl := none) (([] : List UInt8)).length (tl_get rfl) rfl rfl rfl (by kernel_rfl) rfl (hh.tk 0 (by kernel_rfl)) (by simp only [List.length_map, List.length_cons, List.length_nil]) (.inl ⟨5, by kernel_rfl, rfl⟩) (by simp only [List.length_map, bytesD_len, List.length_cons, List.length_nil]; omega) (by simp only [List.length_map, bytesD_len, List.length_cons, List.length_nil]; omega) (fun S_ u_ => ?_)
      replace hh := hh.tkS' 0 (by kernel_rfl) u_ (n := (([] : List UInt8) ++ a0).length) (by first | rfl | (simp [bytesD_len]; done) | (simp [bytesD_len]; omega))
      refine fg [7] ?_
      refine tod 7 (.sl 1 ([] ++ (a0.map eB)) (some t3)) (.sl 1 ((([] : List UInt8) ++ a0).map eB) (some t3)) (by kernel_rfl) (by first | rw [List.map_append]; done | (simp only [List.map_append]; done) | (simp only [List.map_append]; rfl) | (rw [List.map_append]; rfl)) ?_
      refine seg 1 [2] [(2, .sl 1 ((([] : List UInt8) ++ a0).map eB) (some t3))] [] (by kernel_rfl) (by kernel_rfl) ?_
      refine zn ?_
      refine AT_ret ?_
      have e_ := Option.some.inj h
      subst e_
      exact ⟨[.sl 1 ((([] : List UInt8) ++ a0).map eB) (some t3)], _, S_, (.of (by kernel_rfl)), D.le.refl _, Store.le.refl _, t3, rfl, hh⟩
  · rw [if_neg he1] at h
    have e_ : b1 = false := by cases b1 with | false => rfl | true => exact absurd (by simpa using hb1 rfl) (by simpa using he1)
    subst e_
    refine fg [0, 4] ?_
    refine zn ?_
    refine AT_cond_f (by kernel_rfl) ?_
    refine zkn ?_
    refine zsr ?_
    refine AOps_litU (sz := 1) (es := []) (tl_get rfl) rfl rfl rfl (by kernel_rfl) (by decide) (by kernel_rfl) (by decide) (by kernel_rfl) (by kernel_rfl) (by intro x hx; cases hx) (fun S_ t1 hf_ u_ => ?_)
    replace hh := hh.tkN' hf_ u_ (n := (([] : List UInt8)).length) (by first | rfl | (simp [bytesD_len]; done) | (simp [bytesD_len]; omega))
    refine fg [0, 5] ?_
    refine seg 1 [5, 6] [(6, .sl 1 (a0.map eB) none)] [2, 3] (by kernel_rfl) (by kernel_rfl) ?_
    obtain ⟨hl1, h⟩ := is h
    refine AOps_appendU (bytes := 1) (es := []) (xs := a0.map eB) (tl := none) (([] : List UInt8)).length (tl_get rfl) rfl rfl rfl (by kernel_rfl) rfl (hh.tk 0 (by kernel_rfl)) (by simp only [List.length_map, List.length_cons, List.length_nil]) (.inl ⟨5, by kernel_rfl, rfl⟩) (by simp only [List.length_map, bytesD_len, List.length_cons, List.length_nil]; omega) (by simp only [List.length_map, bytesD_len, List.length_cons, List.length_nil]; omega) (fun S_ u_ => ?_)
    replace hh := hh.tkS' 0 (by kernel_rfl) u_ (n := (([] : List UInt8) ++ a0).length) (by first | rfl | (simp [bytesD_len]; done) | (simp [bytesD_len]; omega))
    refine fg [7] ?_
    refine tod 7 (.sl 1 ([] ++ (a0.map eB)) (some t1)) (.sl 1 ((([] : List UInt8) ++ a0).map eB) (some t1)) (by kernel_rfl) (by first | rw [List.map_append]; done | (simp only [List.map_append]; done) | (simp only [List.map_append]; rfl) | (rw [List.map_append]; rfl)) ?_
    refine seg 1 [2] [(2, .sl 1 ((([] : List UInt8) ++ a0).map eB) (some t1))] [] (by kernel_rfl) (by kernel_rfl) ?_
    refine zn ?_
    refine AT_ret ?_
    have e_ := Option.some.inj h
    subst e_
    exact ⟨[.sl 1 ((([] : List UInt8) ++ a0).map eB) (some t1)], _, S_, (.of (by kernel_rfl)), D.le.refl _, Store.le.refl _, t1, rfl, hh⟩
mutual
def math_bits_Len64.j2 : Nat → Int → Int → Option (Int)
  | 0, _, _ => none
  | k + 1, x5, x6 => if 0 ≤ ((b8 (IntKind.wrap .u8 x5)).toNat : Int) ∧ ((b8 (IntKind.wrap .u8 x5)).toNat : Int) < (text0.length : Int) then (some (IntKind.wrap .i64 (x6 + (IntKind.wrap .i64 ((text0.getD (((b8 (IntKind.wrap .u8 x5)).toNat : Int) : Int).toNat 0).toNat : Int))))) else none
def math_bits_Len64.j1 : Nat → Int → Int → Option (Int)
  | 0, _, _ => none
  | k + 1, x3, x4 => if (decide (x3 ≥ 256)) = true then (math_bits_Len64.j2 k (Int.fdiv x3 (2 ^ min (8 : Int).toNat 64)) (IntKind.wrap .i64 (x4 + 8))) else (math_bits_Len64.j2 k x3 x4)
def math_bits_Len64.j0 : Nat → Int → Int → Option (Int)
  | 0, _, _ => none
  | k + 1, x1, x2 => if (decide (x1 ≥ 65536)) = true then (math_bits_Len64.j1 k (Int.fdiv x1 (2 ^ min (16 : Int).toNat 64)) (IntKind.wrap .i64 (x2 + 16))) else (math_bits_Len64.j1 k x1 x2)
end
def math_bits_Len64.f (k : Nat) (a0 : Int) : Option (Int) := if (decide (a0 ≥ 4294967296)) = true then (math_bits_Len64.j0 k (Int.fdiv a0 (2 ^ min (32 : Int).toNat 64)) 32) else (math_bits_Len64.j0 k a0 0)
theorem math_bits_Len64.mono_l : ∀ k, (∀ y0 y1, LeO (math_bits_Len64.j2 k y0 y1) (math_bits_Len64.j2 (k + 1) y0 y1)) ∧ (∀ y0 y1, LeO (math_bits_Len64.j1 k y0 y1) (math_bits_Len64.j1 (k + 1) y0 y1)) ∧ (∀ y0 y1, LeO (math_bits_Len64.j0 k y0 y1) (math_bits_Len64.j0 (k + 1) y0 y1))
  | 0 => ⟨fun _ _ r h => (by simp only [math_bits_Len64.j2] at h; cases h), fun _ _ r h => (by simp only [math_bits_Len64.j1] at h; cases h), fun _ _ r h => (by simp only [math_bits_Len64.j0] at h; cases h)⟩
  | k + 1 => by
    have ih := math_bits_Len64.mono_l k
    refine ⟨?_, ?_, ?_⟩
    · intro y0 y1
      rw [math_bits_Len64.j2, math_bits_Len64.j2]
      repeat' first
        | exact LeO.refl _
        | exact LeO.none _
        | exact ih.1 _ _
        | exact ih.2.1 _ _
        | exact ih.2.2 _ _
        | refine LeO.ite ?_ ?_
        | refine LeO.bind ?_ (fun _ => ?_)
    · intro y0 y1
      rw [math_bits_Len64.j1, math_bits_Len64.j1]
      repeat' first
        | exact LeO.refl _
        | exact LeO.none _
        | exact ih.1 _ _
        | exact ih.2.1 _ _
        | exact ih.2.2 _ _
        | refine LeO.ite ?_ ?_
        | refine LeO.bind ?_ (fun _ => ?_)
    · intro y0 y1
      rw [math_bits_Len64.j0, math_bits_Len64.j0]
      repeat' first
        | exact LeO.refl _
        | exact LeO.none _
        | exact ih.1 _ _
        | exact ih.2.1 _ _
        | exact ih.2.2 _ _
        | refine LeO.ite ?_ ?_
        | refine LeO.bind ?_ (fun _ => ?_)
theorem math_bits_Len64.mono (k : Nat) (a0 : Int) : LeO (math_bits_Len64.f k a0) (math_bits_Len64.f (k + 1) a0) := by
  unfold math_bits_Len64.f
  repeat' first
    | exact LeO.refl _
    | exact LeO.none _
    | exact (math_bits_Len64.mono_l k).1 _ _
    | exact (math_bits_Len64.mono_l k).2.1 _ _
    | exact (math_bits_Len64.mono_l k).2.2 _ _
    | refine LeO.ite ?_ ?_
    | refine LeO.bind ?_ (fun _ => ?_)
theorem math_bits_Len64.ok (k : Nat) (a0 : Int) (S : Store) (r : Int) (h : math_bits_Len64.f k a0 = some r) : ACalls Try.prog 41 [u64 a0] S (fun r_ S_ => r_ = i64 r ∧ Own S [] S_ []) := by
  unfold math_bits_Len64.f at h
  refine acalls_of Try.func41 rfl ?_
  have hh := Own.nil (S := S)
  refine AT_forget 0x1 (mkS 25 [(0, u64 a0)]) (by kernel_rfl) ?_
  refine zsr ?_
  refine seg 1 [0, 2] [(2, i64 0)] [] (by kernel_rfl) (by kernel_rfl) ?_
  refine zn ?_
  refine AT_cutM 0x5 (fun sl_ S_ => ∃ (k_ : Nat), k_ ≤ k ∧ ∃ (x1 : Int), ∃ (x2 : Int), LeL sl_ (mkS 25 [(0, u64 x1), (2, i64 x2)]) ∧ math_bits_Len64.j0 k_ x1 x2 = some r ∧ Own S [] S_ []) ?_ ?_
  · refine AT_seq ?_
    refine AT_region ?_
    refine seg 2 [0, 2, 4] [(4, bo (decide (a0 ≥ 4294967296)))] [] (by kernel_rfl) (by kernel_rfl) ?_
    refine zn ?_
    refine AT_condR (decide (a0 ≥ 4294967296)) (by kernel_rfl) (fun hc2 => ?_) (fun hc2 => ?_)
    · rw [if_f hc2] at h
      refine zkn ?_
      exact ⟨k, (by omega), a0, 0, (le_rf (by kernel_rfl)), h, hh⟩
    rw [if_t hc2] at h
    refine zsr ?_
    refine segc 2 [6] [(6, u64 (Int.fdiv a0 (2 ^ min (32 : Int).toNat 64)))] ((0 : Int) ≤ 32) [2] (by kernel_rfl) (by kernel_rfl) ((by show (0 : Int) ≤ 32; decide)) ?_
    refine seg 1 [0] [(0, u64 (Int.fdiv a0 (2 ^ min (32 : Int).toNat 64)))] [] (by kernel_rfl) (by kernel_rfl) ?_
    refine znr ?_
    refine seg 1 [0, 2] [(2, i64 32)] [] (by kernel_rfl) (by kernel_rfl) ?_
    refine zn ?_
    exact ⟨k, (by omega), Int.fdiv a0 (2 ^ min (32 : Int).toNat 64), 32, (le_rf (by kernel_rfl)), h, hh⟩
  clear h hh
  rintro sl_ S_ ⟨k', hk_, x1, x2, hl_, h, hh⟩
  refine AT_weaken hl_ ?_
  obtain _ | k1 := k'
  · cases h
  rw [math_bits_Len64.j0] at h
  refine AT_cutM 0x5 (fun sl_ S_ => ∃ (k_ : Nat), k_ ≤ k1 ∧ ∃ (x3 : Int), ∃ (x4 : Int), LeL sl_ (mkS 25 [(0, u64 x3), (2, i64 x4)]) ∧ math_bits_Len64.j1 k_ x3 x4 = some r ∧ Own S [] S_ []) ?_ ?_
  · refine AT_seq ?_
    refine AT_region ?_
    refine seg 2 [0, 2, 8] [(8, bo (decide (x1 ≥ 65536)))] [] (by kernel_rfl) (by kernel_rfl) ?_
    refine zn ?_
    refine AT_condR (decide (x1 ≥ 65536)) (by kernel_rfl) (fun hc4 => ?_) (fun hc4 => ?_)
    · rw [if_f hc4] at h
      refine zkn ?_
      exact ⟨k1, (by omega), x1, x2, (le_rf (by kernel_rfl)), h, hh⟩
    rw [if_t hc4] at h
    refine zsr ?_
    refine segc 2 [2, 10] [(10, u64 (Int.fdiv x1 (2 ^ min (16 : Int).toNat 64)))] ((0 : Int) ≤ 16) [2] (by kernel_rfl) (by kernel_rfl) ((by show (0 : Int) ≤ 16; decide)) ?_
    refine seg 1 [0, 2] [(0, u64 (Int.fdiv x1 (2 ^ min (16 : Int).toNat 64)))] [] (by kernel_rfl) (by kernel_rfl) ?_
    refine znr ?_
    refine seg 3 [0, 2] [(2, i64 (IntKind.wrap .i64 (x2 + 16)))] [] (by kernel_rfl) (by kernel_rfl) ?_
    refine zn ?_
    exact ⟨k1, (by omega), Int.fdiv x1 (2 ^ min (16 : Int).toNat 64), IntKind.wrap .i64 (x2 + 16), (le_rf (by kernel_rfl)), h, hh⟩
  clear h hh
  rintro sl_ S_ ⟨k', hk_, x3, x4, hl_, h, hh⟩
  refine AT_weaken hl_ ?_
  obtain _ | k2 := k'
  · cases h
  rw [math_bits_Len64.j1] at h
  refine AT_cutM 0x5 (fun sl_ S_ => ∃ (k_ : Nat), k_ ≤ k2 ∧ ∃ (x5 : Int), ∃ (x6 : Int), LeL sl_ (mkS 25 [(0, u64 x5), (2, i64 x6)]) ∧ math_bits_Len64.j2 k_ x5 x6 = some r ∧ Own S [] S_ []) ?_ ?_
  · refine AT_seq ?_
    refine AT_region ?_
    refine seg 2 [0, 2, 14] [(14, bo (decide (x3 ≥ 256)))] [] (by kernel_rfl) (by kernel_rfl) ?_
    refine zn ?_
    refine AT_condR (decide (x3 ≥ 256)) (by kernel_rfl) (fun hc6 => ?_) (fun hc6 => ?_)
    · rw [if_f hc6] at h
      refine zkn ?_
      exact ⟨k2, (by omega), x3, x4, (le_rf (by kernel_rfl)), h, hh⟩
    rw [if_t hc6] at h
    refine zsr ?_
    refine segc 2 [2, 16] [(16, u64 (Int.fdiv x3 (2 ^ min (8 : Int).toNat 64)))] ((0 : Int) ≤ 8) [2] (by kernel_rfl) (by kernel_rfl) ((by show (0 : Int) ≤ 8; decide)) ?_
    refine seg 1 [0, 2] [(0, u64 (Int.fdiv x3 (2 ^ min (8 : Int).toNat 64)))] [] (by kernel_rfl) (by kernel_rfl) ?_
    refine znr ?_
    refine seg 3 [0, 2] [(2, i64 (IntKind.wrap .i64 (x4 + 8)))] [] (by kernel_rfl) (by kernel_rfl) ?_
    refine zn ?_
    exact ⟨k2, (by omega), Int.fdiv x3 (2 ^ min (8 : Int).toNat 64), IntKind.wrap .i64 (x4 + 8), (le_rf (by kernel_rfl)), h, hh⟩
  clear h hh
  rintro sl_ S_ ⟨k', hk_, x5, x6, hl_, h, hh⟩
  refine AT_weaken hl_ ?_
  obtain _ | k3 := k'
  · cases h
  rw [math_bits_Len64.j2] at h
  refine zsr ?_
  refine seg 3 [19, 21] [(19, i64 x6), (21, u8 (IntKind.wrap .u8 x5))] [3, 4, 5, 6] (by kernel_rfl) (by kernel_rfl) ?_
  refine tod 21 (u8 (IntKind.wrap .u8 x5)) (u8 ((b8 (IntKind.wrap .u8 x5)).toNat : Int)) (by kernel_rfl) (by rw [show ((b8 (IntKind.wrap .u8 x5)).toNat : Int) = IntKind.wrap .u8 x5 from b8_wrap _]) ?_
  obtain ⟨hi8, h⟩ := is h
  refine segc 1 [19, 22] [(22, u8 ((text0.getD (((b8 (IntKind.wrap .u8 x5)).toNat : Int) : Int).toNat 0).toNat : Int))] (0 ≤ ((b8 (IntKind.wrap .u8 x5)).toNat : Int) ∧ ((b8 (IntKind.wrap .u8 x5)).toNat : Int) < (text0.length : Int)) [4, 5, 6] (by kernel_rfl) (by kernel_rfl) (hi8) ?_
  refine seg 1 [19, 23] [(23, i64 (IntKind.wrap .i64 ((text0.getD (((b8 (IntKind.wrap .u8 x5)).toNat : Int) : Int).toNat 0).toNat : Int)))] [5, 6] (by kernel_rfl) (by kernel_rfl) ?_
  refine seg 1 [24] [(24, i64 (IntKind.wrap .i64 (x6 + (IntKind.wrap .i64 ((text0.getD (((b8 (IntKind.wrap .u8 x5)).toNat : Int) : Int).toNat 0).toNat : Int)))))] [6] (by kernel_rfl) (by kernel_rfl) ?_
  refine seg 1 [2] [(2, i64 (IntKind.wrap .i64 (x6 + (IntKind.wrap .i64 ((text0.getD (((b8 (IntKind.wrap .u8 x5)).toNat : Int) : Int).toNat 0).toNat : Int)))))] [] (by kernel_rfl) (by kernel_rfl) ?_
  refine zn ?_
  refine AT_ret ?_
  have e_ := Option.some.inj h
  subst e_
  exact ⟨[i64 (IntKind.wrap .i64 (x6 + (IntKind.wrap .i64 ((text0.getD (((b8 (IntKind.wrap .u8 x5)).toNat : Int) : Int).toNat 0).toNat : Int))))], _, S_, (.of (by kernel_rfl)), D.le.refl _, Store.le.refl _, rfl, hh⟩
def varint_Size.f (k : Nat) (a0 : Int) : Option (Int) := (math_bits_Len64.f k (ibits .or .u64 a0 1)).bind fun v1 => (some (IntKind.wrap .i64 (Int.tdiv (IntKind.wrap .i64 ((IntKind.wrap .i64 (v1 + 7)) - 1)) 7)))
theorem varint_Size.mono (k : Nat) (a0 : Int) : LeO (varint_Size.f k a0) (varint_Size.f (k + 1) a0) := by
  unfold varint_Size.f
  repeat' first
    | exact LeO.refl _
    | exact LeO.none _
    | exact math_bits_Len64.mono _ _
    | refine LeO.ite ?_ ?_
    | refine LeO.bind ?_ (fun _ => ?_)
theorem varint_Size.ok (k : Nat) (a0 : Int) (S : Store) (r : Int) (h : varint_Size.f k a0 = some r) : ACalls Try.prog 31 [u64 a0] S (fun r_ S_ => r_ = i64 r ∧ Own S [] S_ []) := by
  unfold varint_Size.f at h
  refine acalls_of Try.func31 rfl ?_
  have hh := Own.nil (S := S)
  refine AT_forget 0x1 (mkS 9 [(0, u64 a0)]) (by kernel_rfl) ?_
  refine zsr ?_
  refine seg 1 [0] [] [] (by kernel_rfl) (by kernel_rfl) ?_
  refine znsr ?_
  refine seg 2 [4] [(4, u64 (ibits .or .u64 a0 1))] [2, 3, 4, 5, 6] (by kernel_rfl) (by kernel_rfl) ?_
  obtain ⟨v1, ht1, h⟩ := bs h
  refine AOps_callR _ [u64 (ibits .or .u64 a0 1)] (tl_get rfl) rfl rfl rfl rfl Try.func41 (by decide) rfl ((.cons (D.le.refl _) (.nil))) (math_bits_Len64.ok _ (ibits .or .u64 a0 1) _  _ ht1) ?_
  rintro _ S_ ⟨rfl, h2_⟩
  replace hh := hh.call0 h2_
  refine fg [5] ?_
  refine seg 2 [7] [(7, i64 (IntKind.wrap .i64 ((IntKind.wrap .i64 (v1 + 7)) - 1)))] [5, 6] (by kernel_rfl) (by kernel_rfl) ?_
  refine segc 1 [8] [(8, i64 (IntKind.wrap .i64 (Int.tdiv (IntKind.wrap .i64 ((IntKind.wrap .i64 (v1 + 7)) - 1)) 7)))] ((7 : Int) ≠ 0) [6] (by kernel_rfl) (by kernel_rfl) ((by show (7 : Int) ≠ 0; decide)) ?_
  refine seg 1 [2] [(2, i64 (IntKind.wrap .i64 (Int.tdiv (IntKind.wrap .i64 ((IntKind.wrap .i64 (v1 + 7)) - 1)) 7)))] [] (by kernel_rfl) (by kernel_rfl) ?_
  refine zn ?_
  refine AT_ret ?_
  have e_ := Option.some.inj h
  subst e_
  exact ⟨[i64 (IntKind.wrap .i64 (Int.tdiv (IntKind.wrap .i64 ((IntKind.wrap .i64 (v1 + 7)) - 1)) 7))], _, S_, (.of (by kernel_rfl)), D.le.refl _, Store.le.refl _, rfl, hh⟩
end Go.Proofs.Ytfaojkajlpojlaa.Abs
