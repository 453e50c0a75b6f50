/- What functions of the program compute, each with the proof that it does (printed by wip/gen/all2.py). -/
import Derived.Test.YtfaojkajlpojlaaV17
import Derived.KernelRfl
namespace Go.Proofs.Ytfaojkajlpojlaa.Abs
open Go
set_option maxRecDepth 100000
mutual
def ref19_Right.l1 : Nat → Footer → Int → Int → Int → Int → Option (Bool)
  | 0, _, _, _, _, _ => none
  | k + 1, a0, x1, x3, x4, x5 => if (decide (x5 < (((rd a0.Groups x3 Group.zero).Chunks).length : Int))) = true then (if 0 ≤ x5 ∧ x5 < (a0.Cols.length : Int) then (if 0 ≤ x5 ∧ x5 < (((rd a0.Groups x3 Group.zero).Chunks).length : Int) then ((ref19_chunk.f k (rd a0.Cols x5 Col.zero) (rd ((rd a0.Groups x3 Group.zero).Chunks) x5 [])).bind fun q_v2 => (if (q_v2.1 != ((rd a0.Groups x3 Group.zero).Rows)) = true then (some false) else (if (decide ((IntKind.wrap .i64 (x4 + q_v2.2)) > 1073741824)) = true then (some false) else (ref19_Right.l1 k a0 x1 x3 (IntKind.wrap .i64 (x4 + q_v2.2)) (IntKind.wrap .i64 (x5 + 1)))))) else none) else none) else (ref19_Right.l0 k a0 (IntKind.wrap .i64 (x1 + ((rd a0.Groups x3 Group.zero).Rows))) x4 (IntKind.wrap .i64 (x3 + 1)))
def ref19_Right.l0 : Nat → Footer → Int → Int → Int → Option (Bool)
  | 0, _, _, _, _ => none
  | k + 1, a0, x1, x2, x3 => if (decide (x3 < (a0.Groups.length : Int))) = true then (if 0 ≤ x3 ∧ x3 < (a0.Groups.length : Int) then (if (decide (((rd a0.Groups x3 Group.zero).Rows) < 1)) = true then (some false) else (if (decide (((rd a0.Groups x3 Group.zero).Rows) > (IntKind.wrap .i64 (a0.Rows - x1)))) = true then (some false) else (if ((((rd a0.Groups x3 Group.zero).Chunks).length : Int) != (a0.Cols.length : Int)) = true then (some false) else (ref19_Right.l1 k a0 x1 x3 x2 0)))) else none) else (some (x1 == a0.Rows))
end
def ref19_Right.f (k : Nat) (a0 : Footer) : Option (Bool) := (ref07_Cols.f k a0.Cols).bind fun v1 => (if (v1 != 0) = true then (some false) else (if (decide (a0.Rows < 0)) = true then (some false) else (if (decide (a0.Rows > 65536)) = true then (some false) else (ref19_Right.l0 k a0 0 0 0))))
theorem ref19_Right.mono_l : ∀ k, (∀ y0 y1 y2 y3 y4, LeO (ref19_Right.l1 k y0 y1 y2 y3 y4) (ref19_Right.l1 (k + 1) y0 y1 y2 y3 y4)) ∧ (∀ y0 y1 y2 y3, LeO (ref19_Right.l0 k y0 y1 y2 y3) (ref19_Right.l0 (k + 1) y0 y1 y2 y3))
  | 0 => ⟨fun _ _ _ _ _ r h => (by simp only [ref19_Right.l1] at h; cases h), fun _ _ _ _ r h => (by simp only [ref19_Right.l0] at h; cases h)⟩
  | k + 1 => by
    have ih := ref19_Right.mono_l k
    refine ⟨?_, ?_⟩
    · intro y0 y1 y2 y3 y4
      rw [ref19_Right.l1, ref19_Right.l1]
      repeat' first
        | exact LeO.refl _
        | exact LeO.none _
        | exact ih.1 _ _ _ _ _
        | exact ih.2 _ _ _ _
        | exact ref07_Cols.mono _ _
        | exact ref19_chunk.mono _ _ _
        | refine LeO.ite ?_ ?_
        | refine LeO.bind ?_ (fun _ => ?_)
    · intro y0 y1 y2 y3
      rw [ref19_Right.l0, ref19_Right.l0]
      repeat' first
        | exact LeO.refl _
        | exact LeO.none _
        | exact ih.1 _ _ _ _ _
        | exact ih.2 _ _ _ _
        | exact ref07_Cols.mono _ _
        | exact ref19_chunk.mono _ _ _
        | refine LeO.ite ?_ ?_
        | refine LeO.bind ?_ (fun _ => ?_)
theorem ref19_Right.mono (k : Nat) (a0 : Footer) : LeO (ref19_Right.f k a0) (ref19_Right.f (k + 1) a0) := by
  unfold ref19_Right.f
  repeat' first
    | exact LeO.refl _
    | exact LeO.none _
    | exact (ref19_Right.mono_l k).1 _ _ _ _ _
    | exact (ref19_Right.mono_l k).2 _ _ _ _
    | exact ref07_Cols.mono _ _
    | exact ref19_chunk.mono _ _ _
    | refine LeO.ite ?_ ?_
    | refine LeO.bind ?_ (fun _ => ?_)
theorem ref19_Right.ok (k : Nat) (a0 : Footer) (S : Store) (r : Bool) (h : ref19_Right.f k a0 = some r) : ACalls Try.prog 6 [.ag (Footer.enc a0)] S (fun r_ S_ => r_ = bo r ∧ Own S [] S_ []) := by
  unfold ref19_Right.f at h
  refine acalls_of Try.func6 rfl ?_
  have hh := Own.nil (S := S)
  refine AT_forget 0x1 (mkS 99 [(0, .ag (Footer.enc a0))]) (by kernel_rfl) ?_
  refine zsr ?_
  refine AOps_box_im (ds := (Footer.enc a0)) (tl_get rfl) rfl rfl (by kernel_rfl) ?_
  refine fg [1] ?_
  refine seg 1 [1] [] [] (by kernel_rfl) (by kernel_rfl) ?_
  refine znsr ?_
  refine seg 2 [1, 12] [(12, .sl 3 (a0.Cols.map Col.enc) none)] [2, 3] (by kernel_rfl) (by kernel_rfl) ?_
  obtain ⟨v1, ht1, h⟩ := bs h
  refine AOps_callR _ [.sl 3 (a0.Cols.map Col.enc) none] (tl_get rfl) rfl rfl rfl rfl Try.func13 (by decide) rfl ((.cons (D.le.refl _) (.nil))) (ref07_Cols.ok _ a0.Cols _  _ ht1) ?_
  rintro _ S_ ⟨rfl, h2_⟩
  replace hh := hh.call0 h2_
  refine fg [1, 13] ?_
  refine seg 1 [1, 3] [(3, i64 v1)] [] (by kernel_rfl) (by kernel_rfl) ?_
  refine zn ?_
  refine AT_seq ?_
  refine zsr ?_
  refine seg 3 [1, 16] [(16, bo (v1 != 0))] [3, 4, 5, 6, 7, 8, 9, 10, 11] (by kernel_rfl) (by kernel_rfl) ?_
  refine cased 16 (v1 != 0) (by kernel_rfl) (fun hc4 => ?_) (fun hc4 => ?_)
  · rw [if_t hc4] at h
    refine seg 9 [1, 25] [(25, bo true)] [] (by kernel_rfl) (by kernel_rfl) ?_
    refine zn ?_
    refine AT_cond_t (by kernel_rfl) ?_
    refine zsr ?_
    refine seg 1 [2] [(2, bo false)] [] (by kernel_rfl) (by kernel_rfl) ?_
    refine zn ?_
    refine AT_ret ?_
    refine athen_r ?_
    have e_ := Option.some.inj h
    subst e_
    exact ⟨[bo false], _, S_, (.of (by kernel_rfl)), D.le.refl _, Store.le.refl _, rfl, hh⟩
  rw [if_f hc4] at h
  refine seg 5 [1, 21] [(21, bo (decide (a0.Rows < 0)))] [8, 9, 10, 11] (by kernel_rfl) (by kernel_rfl) ?_
  refine cased 21 (decide (a0.Rows < 0)) (by kernel_rfl) (fun hc5 => ?_) (fun hc5 => ?_)
  · rw [if_t hc5] at h
    refine seg 4 [1, 25] [(25, bo true)] [] (by kernel_rfl) (by kernel_rfl) ?_
    refine zn ?_
    refine AT_cond_t (by kernel_rfl) ?_
    refine zsr ?_
    refine AOps_seg 1 0x4 (mkS 99 [(2, bo false)]) none [] (by kernel_rfl) (by kernel_rfl) trivial ?_
    refine zn ?_
    refine AT_ret ?_
    refine athen_r ?_
    have e_ := Option.some.inj h
    subst e_
    exact ⟨[bo false], _, S_, (.of (by kernel_rfl)), D.le.refl _, Store.le.refl _, rfl, hh⟩
  rw [if_f hc5] at h
  refine seg 4 [1, 25] [(25, bo (decide (a0.Rows > 65536)))] [] (by kernel_rfl) (by kernel_rfl) ?_
  refine zn ?_
  refine AT_condS (decide (a0.Rows > 65536)) (by kernel_rfl) (fun hc6 => ?_) (fun hc6 => ?_)
  · rw [if_t hc6] at h
    refine zsr ?_
    refine AOps_seg 1 0x4 (mkS 99 [(2, bo false)]) none [] (by kernel_rfl) (by kernel_rfl) trivial ?_
    refine zn ?_
    refine AT_ret ?_
    refine athen_r ?_
    have e_ := Option.some.inj h
    subst e_
    exact ⟨[bo false], _, S_, (.of (by kernel_rfl)), D.le.refl _, Store.le.refl _, rfl, hh⟩
  rw [if_f hc6] at h
  refine zkn ?_
  refine zsr ?_
  refine AOps_seg 1 0x12 (mkS 99 [(1, .pt (Footer.enc a0)), (4, i64 0)]) none [] (by kernel_rfl) (by kernel_rfl) trivial ?_
  refine znsr ?_
  refine seg 1 [1, 4, 5] [(5, i64 0)] [] (by kernel_rfl) (by kernel_rfl) ?_
  refine zn ?_
  refine AT_seq ?_
  refine zsr ?_
  refine seg 1 [1, 4, 5, 6] [(6, i64 0)] [] (by kernel_rfl) (by kernel_rfl) ?_
  refine zn ?_
  refine AT_block ?_
  refine AT_loopM 0x72 (fun k_ sl_ S_ => k_ ≤ k ∧ ∃ (x1 : Int), ∃ (x2 : Int), ∃ (x3 : Int), LeL sl_ (mkS 99 [(1, .pt (Footer.enc a0)), (4, i64 x1), (5, i64 x2), (6, i64 x3)]) ∧ ref19_Right.l0 k_ a0 x1 x2 x3 = some r ∧ Own S [] S_ []) k ⟨Nat.le_refl _, 0, 0, 0, (le_rf (by kernel_rfl)), h, hh⟩ ?_
  clear hh h
  rintro k' sl_ S_ ⟨hk_, x1, x2, x3, hl_, h, hh⟩
  refine AT_weaken hl_ ?_
  obtain _ | k1 := k'
  · cases h
  rw [ref19_Right.l0] at h
  refine AT_seq ?_
  refine zsr ?_
  refine seg 4 [1, 4, 5, 6, 26, 29] [(26, i64 x3), (29, i64 ((a0.Groups.map Group.enc).length : Int))] [4] (by kernel_rfl) (by kernel_rfl) ?_
  refine tod 29 (i64 ((a0.Groups.map Group.enc).length : Int)) (i64 (a0.Groups.length : Int)) (by kernel_rfl) (by rw [List.length_map]) ?_
  refine seg 1 [1, 4, 5, 6, 30] [(30, bo (decide (x3 < (a0.Groups.length : Int))))] [] (by kernel_rfl) (by kernel_rfl) ?_
  refine zn ?_
  refine AT_condR (decide (x3 < (a0.Groups.length : Int))) (by kernel_rfl) (fun hc7 => ?_) (fun hc7 => ?_)
  · rw [if_f hc7] at h
    refine AT_exit ?_
    refine athen_e ?_
    refine athen_e ?_
    refine ablock_h ?_
    refine athen_n ?_
    refine zsr ?_
    refine seg 5 [2] [(2, bo (x1 == a0.Rows))] [] (by kernel_rfl) (by kernel_rfl) ?_
    refine zn ?_
    refine AT_ret ?_
    have e_ := Option.some.inj h
    subst e_
    exact ⟨[bo (x1 == a0.Rows)], _, S_, (.of (by kernel_rfl)), D.le.refl _, Store.le.refl _, rfl, hh⟩
  rw [if_t hc7] at h
  refine zkn ?_
  refine AT_seq ?_
  refine AT_block ?_
  refine zsr ?_
  obtain ⟨hi2, h⟩ := is h
  refine segc 4 [1, 4, 5, 6, 36] [(36, .pt ((a0.Groups.map Group.enc).getD (x3 : Int).toNat []))] (0 ≤ x3 ∧ x3 < ((a0.Groups.map Group.enc).length : Int)) [4, 5, 6] (by kernel_rfl) (by kernel_rfl) (idx_ok hi2) ?_
  refine tod 36 (.pt ((a0.Groups.map Group.enc).getD (x3 : Int).toNat [])) (.pt (Group.enc (rd a0.Groups x3 Group.zero))) (by kernel_rfl) (by rw [pt_rd Group.enc a0.Groups x3 Group.zero hi2.1 hi2.2]) ?_
  refine seg 1 [1, 4, 5, 6, 37] [(37, .ag (Group.enc (rd a0.Groups x3 Group.zero)))] [5, 6] (by kernel_rfl) (by kernel_rfl) ?_
  refine AOps_newvar (zs := [i64 0, nilS]) (ds := (Group.enc (rd a0.Groups x3 Group.zero))) (d := 7) (tl_get rfl) rfl rfl rfl (by kernel_rfl) (by kernel_rfl) (tl_get rfl) (fun _ => rfl) rfl rfl (fun _ => rfl) rfl (by kernel_rfl) (by kernel_rfl) ?_
  refine AOps_forget 0xf2 (mkS 99 [(1, .pt (Footer.enc a0)), (4, i64 x1), (5, i64 x2), (6, i64 x3), (7, .pt (Group.enc (rd a0.Groups x3 Group.zero)))]) (by kernel_rfl) ?_
  refine zn ?_
  refine AT_seq ?_
  refine zsr ?_
  refine seg 4 [1, 4, 5, 6, 7, 41] [(41, bo (decide (((rd a0.Groups x3 Group.zero).Rows) < 1)))] [4, 5, 6, 7, 8, 9, 10, 11, 12, 13, 14, 15, 16, 17, 18, 19, 20] (by kernel_rfl) (by kernel_rfl) ?_
  refine cased 41 (decide (((rd a0.Groups x3 Group.zero).Rows) < 1)) (by kernel_rfl) (fun hc11 => ?_) (fun hc11 => ?_)
  · rw [if_t hc11] at h
    refine seg 17 [1, 4, 5, 6, 7, 58] [(58, bo true)] [] (by kernel_rfl) (by kernel_rfl) ?_
    refine zn ?_
    refine AT_cond_t (by kernel_rfl) ?_
    refine zsr ?_
    refine seg 1 [2] [(2, bo false)] [] (by kernel_rfl) (by kernel_rfl) ?_
    refine zn ?_
    refine AT_ret ?_
    refine athen_r ?_
    refine ablock_r ?_
    refine athen_r ?_
    refine athen_r ?_
    refine ablock_r ?_
    refine athen_r ?_
    have e_ := Option.some.inj h
    subst e_
    exact ⟨[bo false], _, S_, (.of (by kernel_rfl)), D.le.refl _, Store.le.refl _, rfl, hh⟩
  rw [if_f hc11] at h
  refine seg 9 [1, 4, 5, 6, 7, 50] [(50, bo (decide (((rd a0.Groups x3 Group.zero).Rows) > (IntKind.wrap .i64 (a0.Rows - x1)))))] [13, 14, 15, 16, 17, 18, 19, 20] (by kernel_rfl) (by kernel_rfl) ?_
  refine cased 50 (decide (((rd a0.Groups x3 Group.zero).Rows) > (IntKind.wrap .i64 (a0.Rows - x1)))) (by kernel_rfl) (fun hc12 => ?_) (fun hc12 => ?_)
  · rw [if_t hc12] at h
    refine seg 8 [1, 4, 5, 6, 7, 58] [(58, bo true)] [] (by kernel_rfl) (by kernel_rfl) ?_
    refine zn ?_
    refine AT_cond_t (by kernel_rfl) ?_
    refine zsr ?_
    refine seg 1 [2] [(2, bo false)] [] (by kernel_rfl) (by kernel_rfl) ?_
    refine zn ?_
    refine AT_ret ?_
    refine athen_r ?_
    refine ablock_r ?_
    refine athen_r ?_
    refine athen_r ?_
    refine ablock_r ?_
    refine athen_r ?_
    have e_ := Option.some.inj h
    subst e_
    exact ⟨[bo false], _, S_, (.of (by kernel_rfl)), D.le.refl _, Store.le.refl _, rfl, hh⟩
  rw [if_f hc12] at h
  refine seg 3 [1, 4, 5, 6, 7, 50, 53] [(53, i64 ((((rd a0.Groups x3 Group.zero).Chunks).map (eL 14 PageInfo.enc)).length : Int))] [16, 17, 18, 19, 20] (by kernel_rfl) (by kernel_rfl) ?_
  refine tod 53 (i64 ((((rd a0.Groups x3 Group.zero).Chunks).map (eL 14 PageInfo.enc)).length : Int)) (i64 (((rd a0.Groups x3 Group.zero).Chunks).length : Int)) (by kernel_rfl) (by rw [List.length_map]) ?_
  refine seg 3 [1, 4, 5, 6, 7, 50, 53, 56] [(56, i64 ((a0.Cols.map Col.enc).length : Int))] [19, 20] (by kernel_rfl) (by kernel_rfl) ?_
  refine tod 56 (i64 ((a0.Cols.map Col.enc).length : Int)) (i64 (a0.Cols.length : Int)) (by kernel_rfl) (by rw [List.length_map]) ?_
  refine seg 2 [1, 4, 5, 6, 7, 58] [(58, bo ((((rd a0.Groups x3 Group.zero).Chunks).length : Int) != (a0.Cols.length : Int)))] [] (by kernel_rfl) (by kernel_rfl) ?_
  refine zn ?_
  refine AT_condS ((((rd a0.Groups x3 Group.zero).Chunks).length : Int) != (a0.Cols.length : Int)) (by kernel_rfl) (fun hc13 => ?_) (fun hc13 => ?_)
  · rw [if_t hc13] at h
    refine zsr ?_
    refine seg 1 [2] [(2, bo false)] [] (by kernel_rfl) (by kernel_rfl) ?_
    refine zn ?_
    refine AT_ret ?_
    refine athen_r ?_
    refine ablock_r ?_
    refine athen_r ?_
    refine athen_r ?_
    refine ablock_r ?_
    refine athen_r ?_
    have e_ := Option.some.inj h
    subst e_
    exact ⟨[bo false], _, S_, (.of (by kernel_rfl)), D.le.refl _, Store.le.refl _, rfl, hh⟩
  rw [if_f hc13] at h
  refine zkn ?_
  refine AT_seq ?_
  refine zsr ?_
  refine seg 1 [1, 4, 5, 6, 7, 8] [(8, i64 0)] [] (by kernel_rfl) (by kernel_rfl) ?_
  refine zn ?_
  refine AT_block ?_
  refine AT_loopM 0x1f2 (fun k_ sl_ S_ => k_ ≤ k1 ∧ ∃ (x4 : Int), ∃ (x5 : Int), LeL sl_ (mkS 99 [(1, .pt (Footer.enc a0)), (4, i64 x1), (5, i64 x4), (6, i64 x3), (7, .pt (Group.enc (rd a0.Groups x3 Group.zero))), (8, i64 x5)]) ∧ ref19_Right.l1 k_ a0 x1 x3 x4 x5 = some r ∧ Own S [] S_ []) k1 ⟨Nat.le_refl _, x2, 0, (le_rf (by kernel_rfl)), h, hh⟩ ?_
  clear hh h
  rintro k' sl_ S_ ⟨hk_, x4, x5, hl_, h, hh⟩
  refine AT_weaken hl_ ?_
  obtain _ | k2 := k'
  · cases h
  rw [ref19_Right.l1] at h
  refine AT_seq ?_
  refine zsr ?_
  refine seg 4 [1, 4, 5, 6, 7, 8, 59, 62] [(59, i64 x5), (62, i64 ((((rd a0.Groups x3 Group.zero).Chunks).map (eL 14 PageInfo.enc)).length : Int))] [4] (by kernel_rfl) (by kernel_rfl) ?_
  refine tod 62 (i64 ((((rd a0.Groups x3 Group.zero).Chunks).map (eL 14 PageInfo.enc)).length : Int)) (i64 (((rd a0.Groups x3 Group.zero).Chunks).length : Int)) (by kernel_rfl) (by rw [List.length_map]) ?_
  refine seg 1 [1, 4, 5, 6, 7, 8, 63] [(63, bo (decide (x5 < (((rd a0.Groups x3 Group.zero).Chunks).length : Int))))] [] (by kernel_rfl) (by kernel_rfl) ?_
  refine zn ?_
  refine AT_condR (decide (x5 < (((rd a0.Groups x3 Group.zero).Chunks).length : Int))) (by kernel_rfl) (fun hc14 => ?_) (fun hc14 => ?_)
  · rw [if_f hc14] at h
    refine AT_exit ?_
    refine athen_e ?_
    refine athen_e ?_
    refine ablock_h ?_
    refine athen_n ?_
    refine AT_region ?_
    refine seg 5 [1, 4, 5, 6] [(4, i64 (IntKind.wrap .i64 (x1 + ((rd a0.Groups x3 Group.zero).Rows))))] [] (by kernel_rfl) (by kernel_rfl) ?_
    refine AOps_end ?_
    refine ablock_n ?_
    refine athen_n ?_
    refine AT_region ?_
    refine seg 3 [1, 4, 5, 6] [(6, i64 (IntKind.wrap .i64 (x3 + 1)))] [] (by kernel_rfl) (by kernel_rfl) ?_
    refine zn ?_
    exact ⟨k2, (by omega), (by omega), IntKind.wrap .i64 (x1 + ((rd a0.Groups x3 Group.zero).Rows)), x4, IntKind.wrap .i64 (x3 + 1), (le_rf (by kernel_rfl)), h, hh⟩
  rw [if_t hc14] at h
  refine zkn ?_
  refine AT_seq ?_
  refine AT_block ?_
  refine AT_seq ?_
  refine AT_draw [10] 16 (fun _ => True) (by kernel_rfl) ?_
  refine aseg 16 [] [1, 4, 5, 6, 7, 8] [] #[false, false, false, false, false, false, false, false, false, false, false, false, false, false, false, false] (by kernel_rfl) (by kernel_rfl) ?_
  obtain ⟨hi8, h⟩ := is h
  refine asegc 12 [0, 1, 2, 3] [1, 4, 5, 6, 7, 8, 70] [(70, .pt ((a0.Cols.map Col.enc).getD (x5 : Int).toNat []))] (0 ≤ x5 ∧ x5 < ((a0.Cols.map Col.enc).length : Int)) #[true, true, true, true, false, false, false, false, false, false, false, false, false, false, false, false] (by kernel_rfl) (idx_ok hi8) (by kernel_rfl) ?_
  refine atod 70 (.pt ((a0.Cols.map Col.enc).getD (x5 : Int).toNat [])) (.pt (Col.enc (rd a0.Cols x5 Col.zero))) (by kernel_rfl) (by rw [pt_rd Col.enc a0.Cols x5 Col.zero hi8.1 hi8.2]) ?_
  obtain ⟨hi9, h⟩ := is h
  refine asegc 7 [4, 5, 6, 7, 8] [1, 4, 5, 6, 7, 8, 71, 75] [(71, .ag (Col.enc (rd a0.Cols x5 Col.zero))), (75, .pt ((((rd a0.Groups x3 Group.zero).Chunks).map (eL 14 PageInfo.enc)).getD (x5 : Int).toNat []))] (0 ≤ x5 ∧ x5 < ((((rd a0.Groups x3 Group.zero).Chunks).map (eL 14 PageInfo.enc)).length : Int)) #[true, true, true, true, true, true, true, true, true, false, false, false, false, false, false, false] (by kernel_rfl) (idx_ok hi9) (by kernel_rfl) ?_
  refine atod 75 (.pt ((((rd a0.Groups x3 Group.zero).Chunks).map (eL 14 PageInfo.enc)).getD (x5 : Int).toNat [])) (.pt [.sl 14 ((rd ((rd a0.Groups x3 Group.zero).Chunks) x5 []).map PageInfo.enc) none]) (by kernel_rfl) (by rw [pt_rd (eL 14 PageInfo.enc) ((rd a0.Groups x3 Group.zero).Chunks) x5 [] hi9.1 hi9.2]) ?_
  refine aseg 6 [9] [1, 4, 5, 6, 7, 8, 71, 76] [(76, .sl 14 ((rd ((rd a0.Groups x3 Group.zero).Chunks) x5 []).map PageInfo.enc) none)] #[true, true, true, true, true, true, true, true, true, true, false, false, false, false, false, false] (by kernel_rfl) (by kernel_rfl) ?_
  refine AAny_eff (fuel := 5) 10 (.inr trivial) (tl_get rfl) (by kernel_rfl) (by kernel_rfl) (by kernel_rfl) ?_
  obtain ⟨⟨v2, v3⟩, ht2, h⟩ := bs h
  simp only at h
  refine AOps_callR _ [.ag (Col.enc (rd a0.Cols x5 Col.zero)), .sl 14 ((rd ((rd a0.Groups x3 Group.zero).Chunks) x5 []).map PageInfo.enc) none] (tl_get rfl) rfl rfl rfl rfl Try.func14 (by decide) rfl ((.cons (D.le.refl _) (.cons (D.le.refl _) (.nil)))) (ref19_chunk.ok _ (rd a0.Cols x5 Col.zero) (rd ((rd a0.Groups x3 Group.zero).Chunks) x5 []) _  _ _ ht2) ?_
  rintro _ S_ ⟨rfl, h2_⟩
  replace hh := hh.call0 h2_
  refine AOps_end ⟨rfl, _, rfl, ?_⟩; refine afg [1, 4, 5, 6, 7, 8, 77] #[true, true, true, true, true, true, true, true, true, true, true, false, false, false, false, false] (by kernel_rfl) ?_
  refine aseg 0 [11, 12, 13, 14, 15] [1, 4, 5, 6, 7, 8, 9, 10] [(9, i64 v2), (10, i64 v3)] #[true, true, true, true, true, true, true, true, true, true, true, true, true, true, true, true] (by kernel_rfl) (by kernel_rfl) ?_
  refine AAny_end (.inr trivial) (by kernel_rfl) ?_
  refine athen_n ?_
  refine zsr ?_
  refine AOps_seg 4 0x3f2 (mkS 99 [(1, .pt (Footer.enc a0)), (4, i64 x1), (5, i64 (IntKind.wrap .i64 (x4 + v3))), (6, i64 x3), (7, .pt (Group.enc (rd a0.Groups x3 Group.zero))), (8, i64 x5), (9, i64 v2)]) none [] (by kernel_rfl) (by kernel_rfl) trivial ?_
  refine znsr ?_
  refine seg 5 [1, 4, 5, 6, 7, 8, 87] [(87, bo (v2 != ((rd a0.Groups x3 Group.zero).Rows)))] [5, 6, 7] (by kernel_rfl) (by kernel_rfl) ?_
  refine cased 87 (v2 != ((rd a0.Groups x3 Group.zero).Rows)) (by kernel_rfl) (fun hc15 => ?_) (fun hc15 => ?_)
  · rw [if_t hc15] at h
    refine seg 3 [1, 4, 5, 6, 7, 8, 90] [(90, bo true)] [] (by kernel_rfl) (by kernel_rfl) ?_
    refine zn ?_
    refine AT_cond_t (by kernel_rfl) ?_
    refine zsr ?_
    refine seg 1 [2] [(2, bo false)] [] (by kernel_rfl) (by kernel_rfl) ?_
    refine zn ?_
    refine AT_ret ?_
    refine ablock_r ?_
    refine athen_r ?_
    refine athen_r ?_
    refine ablock_r ?_
    refine athen_r ?_
    refine ablock_r ?_
    refine athen_r ?_
    refine athen_r ?_
    refine ablock_r ?_
    refine athen_r ?_
    have e_ := Option.some.inj h
    subst e_
    exact ⟨[bo false], _, S_, (.of (by kernel_rfl)), D.le.refl _, Store.le.refl _, rfl, hh⟩
  rw [if_f hc15] at h
  refine seg 3 [1, 4, 5, 6, 7, 8, 90] [(90, bo (decide ((IntKind.wrap .i64 (x4 + v3)) > 1073741824)))] [] (by kernel_rfl) (by kernel_rfl) ?_
  refine zn ?_
  refine AT_condR (decide ((IntKind.wrap .i64 (x4 + v3)) > 1073741824)) (by kernel_rfl) (fun hc16 => ?_) (fun hc16 => ?_)
  · rw [if_f hc16] at h
    refine AT_skip ?_
    refine ablock_n ?_
    refine athen_n ?_
    refine AT_region ?_
    refine seg 3 [1, 4, 5, 6, 7, 8] [(8, i64 (IntKind.wrap .i64 (x5 + 1)))] [] (by kernel_rfl) (by kernel_rfl) ?_
    refine zn ?_
    exact ⟨k2, (by omega), (by omega), IntKind.wrap .i64 (x4 + v3), IntKind.wrap .i64 (x5 + 1), (le_rf (by kernel_rfl)), h, hh⟩
  rw [if_t hc16] at h
  refine zsr ?_
  refine seg 1 [2] [(2, bo false)] [] (by kernel_rfl) (by kernel_rfl) ?_
  refine zn ?_
  refine AT_ret ?_
  refine ablock_r ?_
  refine athen_r ?_
  refine athen_r ?_
  refine ablock_r ?_
  refine athen_r ?_
  refine ablock_r ?_
  refine athen_r ?_
  refine athen_r ?_
  refine ablock_r ?_
  refine athen_r ?_
  have e_ := Option.some.inj h
  subst e_
  exact ⟨[bo false], _, S_, (.of (by kernel_rfl)), D.le.refl _, Store.le.refl _, rfl, hh⟩
end Go.Proofs.Ytfaojkajlpojlaa.Abs
