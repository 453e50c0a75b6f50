/- What functions of the program compute, each with the proof that it does (printed by wip/gen/all2.py). -/
import Derived.Test.YtfaojkajlpojlaaV11
import Derived.KernelRfl
namespace Go.Proofs.Ytfaojkajlpojlaa.Abs
open Go
set_option maxRecDepth 100000
mutual
def footer_Spans.l1 : Nat → Footer → Int → Int → Int → (List Span) → Int → Option ((List Span))
  | 0, _, _, _, _, _, _ => none
  | k + 1, a0, a1, a2, x3, x4, x5 => if (decide (x5 < ((rd ((rd a0.Groups a1 Group.zero).Chunks) a2 []).length : Int))) = true then (if 0 ≤ x5 ∧ x5 < ((rd ((rd a0.Groups a1 Group.zero).Chunks) a2 []).length : Int) then (if (x4.length + 1) * 16 ≤ 140737488355328 then (footer_Spans.l1 k a0 a1 a2 (IntKind.wrap .i64 (x3 + ((rd (rd ((rd a0.Groups a1 Group.zero).Chunks) a2 []) x5 PageInfo.zero).Rows))) (x4 ++ ([(⟨x3, IntKind.wrap .i64 (x3 + ((rd (rd ((rd a0.Groups a1 Group.zero).Chunks) a2 []) x5 PageInfo.zero).Rows))⟩ : Span)] : List Span)) (IntKind.wrap .i64 (x5 + 1))) else none) else none) else (some x4)
def footer_Spans.l0 : Nat → Footer → Int → Int → Int → Int → Option ((List Span))
  | 0, _, _, _, _, _ => none
  | k + 1, a0, a1, a2, x1, x2 => if (decide (x2 < ((a0.Groups.take (a1 : Int).toNat).length : Int))) = true then (if 0 ≤ x2 ∧ x2 < ((a0.Groups.take (a1 : Int).toNat).length : Int) then (footer_Spans.l0 k a0 a1 a2 (IntKind.wrap .i64 (x1 + ((rd (a0.Groups.take (a1 : Int).toNat) x2 Group.zero).Rows))) (IntKind.wrap .i64 (x2 + 1))) else none) else (if 0 ≤ a1 ∧ a1 < (a0.Groups.length : Int) then (if 0 ≤ a2 ∧ a2 < (((rd a0.Groups a1 Group.zero).Chunks).length : Int) then (footer_Spans.l1 k a0 a1 a2 x1 ([] : List Span) 0) else none) else none)
end
def footer_Spans.f (k : Nat) (a0 : Footer) (a1 : Int) (a2 : Int) : Option ((List Span)) := if (decide (a1 < 0)) = true then (some ([] : List Span)) else (if (decide (a1 ≥ (a0.Groups.length : Int))) = true then (some ([] : List Span)) else (if (decide (a2 < 0)) = true then (some ([] : List Span)) else (if (decide (a2 ≥ (a0.Cols.length : Int))) = true then (some ([] : List Span)) else ((footer_Right.f k a0).bind fun v2 => (if (!v2) = true then (some ([] : List Span)) else (if 0 ≤ a1 ∧ a1 ≤ (a0.Groups.length : Int) then (footer_Spans.l0 k a0 a1 a2 0 0) else none))))))
theorem footer_Spans.mono_l : ∀ k, (∀ y0 y1 y2 y3 y4 y5, LeO (footer_Spans.l1 k y0 y1 y2 y3 y4 y5) (footer_Spans.l1 (k + 1) y0 y1 y2 y3 y4 y5)) ∧ (∀ y0 y1 y2 y3 y4, LeO (footer_Spans.l0 k y0 y1 y2 y3 y4) (footer_Spans.l0 (k + 1) y0 y1 y2 y3 y4))
  | 0 => ⟨fun _ _ _ _ _ _ r h => (by simp only [footer_Spans.l1] at h; cases h), fun _ _ _ _ _ r h => (by simp only [footer_Spans.l0] at h; cases h)⟩
  | k + 1 => by
    have ih := footer_Spans.mono_l k
    refine ⟨?_, ?_⟩
    · intro y0 y1 y2 y3 y4 y5
      rw [footer_Spans.l1, footer_Spans.l1]
      repeat' first
        | exact LeO.refl _
        | exact LeO.none _
        | exact ih.1 _ _ _ _ _ _
        | exact ih.2 _ _ _ _ _
        | exact footer_Right.mono _ _
        | refine LeO.ite ?_ ?_
        | refine LeO.bind ?_ (fun _ => ?_)
    · intro y0 y1 y2 y3 y4
      rw [footer_Spans.l0, footer_Spans.l0]
      repeat' first
        | exact LeO.refl _
        | exact LeO.none _
        | exact ih.1 _ _ _ _ _ _
        | exact ih.2 _ _ _ _ _
        | exact footer_Right.mono _ _
        | refine LeO.ite ?_ ?_
        | refine LeO.bind ?_ (fun _ => ?_)
theorem footer_Spans.mono (k : Nat) (a0 : Footer) (a1 : Int) (a2 : Int) : LeO (footer_Spans.f k a0 a1 a2) (footer_Spans.f (k + 1) a0 a1 a2) := by
  unfold footer_Spans.f
  repeat' first
    | exact LeO.refl _
    | exact LeO.none _
    | exact (footer_Spans.mono_l k).1 _ _ _ _ _ _
    | exact (footer_Spans.mono_l k).2 _ _ _ _ _
    | exact footer_Right.mono _ _
    | refine LeO.ite ?_ ?_
    | refine LeO.bind ?_ (fun _ => ?_)
theorem footer_Spans.ok (k : Nat) (a0 : Footer) (a1 : Int) (a2 : Int) (S : Store) (r : (List Span)) (h : footer_Spans.f k a0 a1 a2 = some r) : ACalls Try.prog 7 [.ag (Footer.enc a0), i64 a1, i64 a2] S (fun r_ S_ => ∃ (u0 : Nat), r_ = .sl 2 (r.map Span.enc) (some u0) ∧ Own S [] S_ [.t u0 (r).length 2]) := by
  unfold footer_Spans.f at h
  refine acalls_of Try.func7 rfl ?_
  have hh := Own.nil (S := S)
  refine AT_forget 0x7 (mkS 81 [(0, .ag (Footer.enc a0)), (1, i64 a1), (2, i64 a2)]) (by kernel_rfl) ?_
  refine zsr ?_
  refine AOps_box_im (ds := (Footer.enc a0)) (tl_get rfl) rfl rfl (by kernel_rfl) ?_
  refine fg [1, 2, 3] ?_
  refine seg 1 [1, 2, 3] [] [] (by kernel_rfl) (by kernel_rfl) ?_
  refine zn ?_
  refine AT_seq ?_
  refine zsr ?_
  refine seg 3 [1, 2, 3, 15] [(15, bo (decide (a1 < 0)))] [3, 4, 5, 6, 7, 8, 9, 10, 11, 12, 13, 14, 15, 16, 17, 18, 19, 20, 21, 22, 23, 24] (by kernel_rfl) (by kernel_rfl) ?_
  refine cased 15 (decide (a1 < 0)) (by kernel_rfl) (fun hc6 => ?_) (fun hc6 => ?_)
  · rw [if_t hc6] at h
    refine seg 22 [1, 2, 3, 37] [(37, bo true)] [] (by kernel_rfl) (by kernel_rfl) ?_
    refine zn ?_
    refine AT_cond_t (by kernel_rfl) ?_
    refine zsr ?_
    refine seg 1 [6] [(6, nilS)] [] (by kernel_rfl) (by kernel_rfl) ?_
    refine zn ?_
    refine AT_nilU 6 2 (fun tk_ => mkS 81 [(6, .sl 2 [] (some tk_))]) (by kernel_rfl) (fun tk_ => by kernel_rfl) (fun S_ t6 hf_ u_ => ?_)
    replace hh := hh.tkN' hf_ u_ (n := (([] : List Span)).length) (by first | rfl | (simp [bytesD_len]; done) | (simp [bytesD_len]; omega))
    refine AT_ret ?_
    refine athen_r ?_
    have e_ := Option.some.inj h
    subst e_
    exact ⟨[.sl 2 [] (some t6)], _, S_, (.of (by kernel_rfl)), D.le.refl _, Store.le.refl _, t6, rfl, hh⟩
  rw [if_f hc6] at h
  refine seg 4 [1, 2, 3, 15, 16, 19] [(16, i64 a1), (19, i64 ((a0.Groups.map Group.enc).length : Int))] [7, 8, 9, 10, 11, 12, 13, 14, 15, 16, 17, 18, 19, 20, 21, 22, 23, 24] (by kernel_rfl) (by kernel_rfl) ?_
  refine tod 19 (i64 ((a0.Groups.map Group.enc).length : Int)) (i64 (a0.Groups.length : Int)) (by kernel_rfl) (by rw [List.length_map]) ?_
  refine seg 3 [1, 2, 3, 22] [(22, bo (decide (a1 ≥ (a0.Groups.length : Int))))] [10, 11, 12, 13, 14, 15, 16, 17, 18, 19, 20, 21, 22, 23, 24] (by kernel_rfl) (by kernel_rfl) ?_
  refine cased 22 (decide (a1 ≥ (a0.Groups.length : Int))) (by kernel_rfl) (fun hc7 => ?_) (fun hc7 => ?_)
  · rw [if_t hc7] at h
    refine seg 15 [1, 2, 3, 37] [(37, bo true)] [] (by kernel_rfl) (by kernel_rfl) ?_
    refine zn ?_
    refine AT_cond_t (by kernel_rfl) ?_
    refine zsr ?_
    refine seg 1 [6] [(6, nilS)] [] (by kernel_rfl) (by kernel_rfl) ?_
    refine zn ?_
    refine AT_nilU 6 2 (fun tk_ => mkS 81 [(6, .sl 2 [] (some tk_))]) (by kernel_rfl) (fun tk_ => by kernel_rfl) (fun S_ t7 hf_ u_ => ?_)
    replace hh := hh.tkN' hf_ u_ (n := (([] : List Span)).length) (by first | rfl | (simp [bytesD_len]; done) | (simp [bytesD_len]; omega))
    refine AT_ret ?_
    refine athen_r ?_
    have e_ := Option.some.inj h
    subst e_
    exact ⟨[.sl 2 [] (some t7)], _, S_, (.of (by kernel_rfl)), D.le.refl _, Store.le.refl _, t7, rfl, hh⟩
  rw [if_f hc7] at h
  refine seg 4 [1, 2, 3, 26] [(26, bo (decide (a2 < 0)))] [14, 15, 16, 17, 18, 19, 20, 21, 22, 23, 24] (by kernel_rfl) (by kernel_rfl) ?_
  refine cased 26 (decide (a2 < 0)) (by kernel_rfl) (fun hc8 => ?_) (fun hc8 => ?_)
  · rw [if_t hc8] at h
    refine seg 11 [1, 2, 3, 37] [(37, bo true)] [] (by kernel_rfl) (by kernel_rfl) ?_
    refine zn ?_
    refine AT_cond_t (by kernel_rfl) ?_
    refine zsr ?_
    refine seg 1 [6] [(6, nilS)] [] (by kernel_rfl) (by kernel_rfl) ?_
    refine zn ?_
    refine AT_nilU 6 2 (fun tk_ => mkS 81 [(6, .sl 2 [] (some tk_))]) (by kernel_rfl) (fun tk_ => by kernel_rfl) (fun S_ t8 hf_ u_ => ?_)
    replace hh := hh.tkN' hf_ u_ (n := (([] : List Span)).length) (by first | rfl | (simp [bytesD_len]; done) | (simp [bytesD_len]; omega))
    refine AT_ret ?_
    refine athen_r ?_
    have e_ := Option.some.inj h
    subst e_
    exact ⟨[.sl 2 [] (some t8)], _, S_, (.of (by kernel_rfl)), D.le.refl _, Store.le.refl _, t8, rfl, hh⟩
  rw [if_f hc8] at h
  refine seg 4 [1, 2, 3, 26, 27, 30] [(27, i64 a2), (30, i64 ((a0.Cols.map Col.enc).length : Int))] [18, 19, 20, 21, 22, 23, 24] (by kernel_rfl) (by kernel_rfl) ?_
  refine tod 30 (i64 ((a0.Cols.map Col.enc).length : Int)) (i64 (a0.Cols.length : Int)) (by kernel_rfl) (by rw [List.length_map]) ?_
  refine seg 3 [1, 2, 3, 33] [(33, bo (decide (a2 ≥ (a0.Cols.length : Int))))] [21, 22, 23, 24] (by kernel_rfl) (by kernel_rfl) ?_
  refine cased 33 (decide (a2 ≥ (a0.Cols.length : Int))) (by kernel_rfl) (fun hc9 => ?_) (fun hc9 => ?_)
  · rw [if_t hc9] at h
    refine AOps_seg 4 0x200000000e (mkS 81 [(1, i64 a1), (2, i64 a2), (3, .pt (Footer.enc a0)), (37, bo true)]) none [] (by kernel_rfl) (by kernel_rfl) trivial ?_
    refine zn ?_
    refine AT_cond_t (by kernel_rfl) ?_
    refine zsr ?_
    refine seg 1 [6] [(6, nilS)] [] (by kernel_rfl) (by kernel_rfl) ?_
    refine zn ?_
    refine AT_nilU 6 2 (fun tk_ => mkS 81 [(6, .sl 2 [] (some tk_))]) (by kernel_rfl) (fun tk_ => by kernel_rfl) (fun S_ t9 hf_ u_ => ?_)
    replace hh := hh.tkN' hf_ u_ (n := (([] : List Span)).length) (by first | rfl | (simp [bytesD_len]; done) | (simp [bytesD_len]; omega))
    refine AT_ret ?_
    refine athen_r ?_
    have e_ := Option.some.inj h
    subst e_
    exact ⟨[.sl 2 [] (some t9)], _, S_, (.of (by kernel_rfl)), D.le.refl _, Store.le.refl _, t9, rfl, hh⟩
  rw [if_f hc9] at h
  refine AOps_seg 1 0x60000000e (mkS 81 [(1, i64 a1), (2, i64 a2), (3, .pt (Footer.enc a0)), (33, bo false), (34, .ag (Footer.enc a0))]) none [22, 23, 24] (by kernel_rfl) (by kernel_rfl) trivial ?_
  obtain ⟨v2, ht2, h⟩ := bs h
  refine AOps_callR _ [.ag (Footer.enc a0)] (tl_get rfl) rfl rfl rfl rfl Try.func12 (by decide) rfl ((.cons (D.le.refl _) (.nil))) (footer_Right.ok _ a0 _  _ ht2) ?_
  rintro _ S_ ⟨rfl, h2_⟩
  replace hh := hh.call0 h2_
  refine fg [1, 2, 3, 33, 35] ?_
  refine seg 2 [1, 2, 3, 37] [(37, bo (!v2))] [] (by kernel_rfl) (by kernel_rfl) ?_
  refine zn ?_
  refine AT_condS (!v2) (by kernel_rfl) (fun hc10 => ?_) (fun hc10 => ?_)
  · rw [if_t hc10] at h
    refine zsr ?_
    refine seg 1 [6] [(6, nilS)] [] (by kernel_rfl) (by kernel_rfl) ?_
    refine zn ?_
    refine AT_nilU 6 2 (fun tk_ => mkS 81 [(6, .sl 2 [] (some tk_))]) (by kernel_rfl) (fun tk_ => by kernel_rfl) (fun S_ t10 hf_ u_ => ?_)
    replace hh := hh.tkN' hf_ u_ (n := (([] : List Span)).length) (by first | rfl | (simp [bytesD_len]; done) | (simp [bytesD_len]; omega))
    refine AT_ret ?_
    refine athen_r ?_
    have e_ := Option.some.inj h
    subst e_
    exact ⟨[.sl 2 [] (some t10)], _, S_, (.of (by kernel_rfl)), D.le.refl _, Store.le.refl _, t10, rfl, hh⟩
  rw [if_f hc10] at h
  refine zkn ?_
  refine zsr ?_
  refine seg 1 [1, 2, 3, 7] [(7, i64 0)] [] (by kernel_rfl) (by kernel_rfl) ?_
  refine zn ?_
  refine AT_seq ?_
  refine zsr ?_
  obtain ⟨hi5, h⟩ := is h
  refine segc 4 [1, 2, 3, 7, 41] [(41, .sl 2 ((a0.Groups.map Group.enc).take (a1 : Int).toNat) none)] (0 ≤ a1 ∧ a1 ≤ ((a0.Groups.map Group.enc).length : Int)) [4, 5] (by kernel_rfl) (by kernel_rfl) ((by rw [List.length_map]; exact hi5)) ?_
  refine tod 41 (.sl 2 ((a0.Groups.map Group.enc).take (a1 : Int).toNat) none) (.sl 2 ((a0.Groups.take (a1 : Int).toNat).map Group.enc) none) (by kernel_rfl) (by simp only [List.map_take, List.map_drop]) ?_
  refine seg 1 [1, 2, 3, 7, 41, 42] [(42, i64 (((a0.Groups.take (a1 : Int).toNat).map Group.enc).length : Int))] [5] (by kernel_rfl) (by kernel_rfl) ?_
  refine tod 42 (i64 (((a0.Groups.take (a1 : Int).toNat).map Group.enc).length : Int)) (i64 ((a0.Groups.take (a1 : Int).toNat).length : Int)) (by kernel_rfl) (by rw [List.length_map]) ?_
  refine seg 1 [1, 2, 3, 7, 41, 42, 43] [(43, i64 0)] [] (by kernel_rfl) (by kernel_rfl) ?_
  refine zn ?_
  refine AT_block ?_
  refine AT_loopM 0xe000000008e (fun k_ sl_ S_ => k_ ≤ k ∧ ∃ (x1 : Int), ∃ (x2 : Int), LeL sl_ (mkS 81 [(1, i64 a1), (2, i64 a2), (3, .pt (Footer.enc a0)), (7, i64 x1), (41, .sl 2 ((a0.Groups.take (a1 : Int).toNat).map Group.enc) none), (42, i64 ((a0.Groups.take (a1 : Int).toNat).length : Int)), (43, i64 x2)]) ∧ footer_Spans.l0 k_ a0 a1 a2 x1 x2 = some r ∧ Own S [] S_ []) k ⟨Nat.le_refl _, 0, 0, (le_rf (by kernel_rfl)), h, hh⟩ ?_
  clear hh h
  rintro k' sl_ S_ ⟨hk_, x1, x2, hl_, h, hh⟩
  refine AT_weaken hl_ ?_
  obtain _ | k1 := k'
  · cases h
  rw [footer_Spans.l0] at h
  refine zsr ?_
  refine seg 1 [1, 2, 3, 7, 41, 42, 43, 44] [(44, bo (decide (x2 < ((a0.Groups.take (a1 : Int).toNat).length : Int))))] [] (by kernel_rfl) (by kernel_rfl) ?_
  refine zn ?_
  refine AT_seq ?_
  refine AT_condS (decide (x2 < ((a0.Groups.take (a1 : Int).toNat).length : Int))) (by kernel_rfl) (fun hc11 => ?_) (fun hc11 => ?_)
  · rw [if_t hc11] at h
    refine zkn ?_
    refine AT_seq ?_
    refine AT_block ?_
    refine zsr ?_
    obtain ⟨hi7, h⟩ := is h
    refine segc 1 [1, 2, 3, 7, 41, 42, 43, 45] [(45, .pt (((a0.Groups.take (a1 : Int).toNat).map Group.enc).getD (x2 : Int).toNat []))] (0 ≤ x2 ∧ x2 < (((a0.Groups.take (a1 : Int).toNat).map Group.enc).length : Int)) [1, 2, 3] (by kernel_rfl) (by kernel_rfl) (idx_ok hi7) ?_
    refine tod 45 (.pt (((a0.Groups.take (a1 : Int).toNat).map Group.enc).getD (x2 : Int).toNat [])) (.pt (Group.enc (rd (a0.Groups.take (a1 : Int).toNat) x2 Group.zero))) (by kernel_rfl) (by rw [pt_rd Group.enc (a0.Groups.take (a1 : Int).toNat) x2 Group.zero hi7.1 hi7.2]) ?_
    refine seg 1 [1, 2, 3, 7, 41, 42, 43, 46] [(46, .ag (Group.enc (rd (a0.Groups.take (a1 : Int).toNat) x2 Group.zero)))] [2, 3] (by kernel_rfl) (by kernel_rfl) ?_
    refine AOps_newvar (zs := [i64 0, nilS]) (ds := (Group.enc (rd (a0.Groups.take (a1 : Int).toNat) x2 Group.zero))) (d := 9) (tl_get rfl) rfl rfl rfl (by kernel_rfl) (by kernel_rfl) (tl_get rfl) (fun _ => rfl) rfl rfl (fun _ => rfl) rfl (by kernel_rfl) (by kernel_rfl) ?_
    refine AOps_forget 0xe000000028e (mkS 81 [(1, i64 a1), (2, i64 a2), (3, .pt (Footer.enc a0)), (7, i64 x1), (9, .pt (Group.enc (rd (a0.Groups.take (a1 : Int).toNat) x2 Group.zero))), (41, .sl 2 ((a0.Groups.take (a1 : Int).toNat).map Group.enc) none), (42, i64 ((a0.Groups.take (a1 : Int).toNat).length : Int)), (43, i64 x2)]) (by kernel_rfl) ?_
    refine znr ?_
    refine seg 5 [1, 2, 3, 7, 41, 42, 43] [(7, i64 (IntKind.wrap .i64 (x1 + ((rd (a0.Groups.take (a1 : Int).toNat) x2 Group.zero).Rows))))] [] (by kernel_rfl) (by kernel_rfl) ?_
    refine AOps_end ?_
    refine ablock_n ?_
    refine athen_n ?_
    refine AT_region ?_
    refine seg 2 [1, 2, 3, 7, 41, 42, 43] [(43, i64 (IntKind.wrap .i64 (x2 + 1)))] [] (by kernel_rfl) (by kernel_rfl) ?_
    refine zn ?_
    exact ⟨k1, (by omega), (by omega), IntKind.wrap .i64 (x1 + ((rd (a0.Groups.take (a1 : Int).toNat) x2 Group.zero).Rows)), IntKind.wrap .i64 (x2 + 1), (le_rf (by kernel_rfl)), h, hh⟩
  rw [if_f hc11] at h
  refine AT_exit ?_
  refine athen_e ?_
  refine athen_e ?_
  refine ablock_h ?_
  refine athen_n ?_
  refine zsr ?_
  refine seg 1 [1, 2, 3, 7, 10] [(10, nilS)] [] (by kernel_rfl) (by kernel_rfl) ?_
  refine zn ?_
  refine AT_seq ?_
  refine zsr ?_
  obtain ⟨hi8, h⟩ := is h
  refine segc 4 [2, 7, 10, 55] [(55, .pt ((a0.Groups.map Group.enc).getD (a1 : Int).toNat []))] (0 ≤ a1 ∧ a1 < ((a0.Groups.map Group.enc).length : Int)) [4, 5, 6, 7, 8, 9, 10] (by kernel_rfl) (by kernel_rfl) (idx_ok hi8) ?_
  refine tod 55 (.pt ((a0.Groups.map Group.enc).getD (a1 : Int).toNat [])) (.pt (Group.enc (rd a0.Groups a1 Group.zero))) (by kernel_rfl) (by rw [pt_rd Group.enc a0.Groups a1 Group.zero hi8.1 hi8.2]) ?_
  obtain ⟨hi9, h⟩ := is h
  refine segc 4 [7, 10, 59] [(59, .pt ((((rd a0.Groups a1 Group.zero).Chunks).map (eL 14 PageInfo.enc)).getD (a2 : Int).toNat []))] (0 ≤ a2 ∧ a2 < ((((rd a0.Groups a1 Group.zero).Chunks).map (eL 14 PageInfo.enc)).length : Int)) [8, 9, 10] (by kernel_rfl) (by kernel_rfl) (idx_ok hi9) ?_
  refine tod 59 (.pt ((((rd a0.Groups a1 Group.zero).Chunks).map (eL 14 PageInfo.enc)).getD (a2 : Int).toNat [])) (.pt [.sl 14 ((rd ((rd a0.Groups a1 Group.zero).Chunks) a2 []).map PageInfo.enc) none]) (by kernel_rfl) (by rw [pt_rd (eL 14 PageInfo.enc) ((rd a0.Groups a1 Group.zero).Chunks) a2 [] hi9.1 hi9.2]) ?_
  refine seg 2 [7, 10, 60, 61] [(60, .sl 14 ((rd ((rd a0.Groups a1 Group.zero).Chunks) a2 []).map PageInfo.enc) none), (61, i64 (((rd ((rd a0.Groups a1 Group.zero).Chunks) a2 []).map PageInfo.enc).length : Int))] [10] (by kernel_rfl) (by kernel_rfl) ?_
  refine tod 61 (i64 (((rd ((rd a0.Groups a1 Group.zero).Chunks) a2 []).map PageInfo.enc).length : Int)) (i64 ((rd ((rd a0.Groups a1 Group.zero).Chunks) a2 []).length : Int)) (by kernel_rfl) (by rw [List.length_map]) ?_
  refine seg 1 [7, 10, 60, 61, 62] [(62, i64 0)] [] (by kernel_rfl) (by kernel_rfl) ?_
  refine zn ?_
  refine AT_block ?_
  refine AT_nilU 10 2 (fun tk_ => mkS 81 [(7, i64 x1), (10, .sl 2 [] (some tk_)), (60, .sl 14 ((rd ((rd a0.Groups a1 Group.zero).Chunks) a2 []).map PageInfo.enc) none), (61, i64 ((rd ((rd a0.Groups a1 Group.zero).Chunks) a2 []).length : Int)), (62, i64 0)]) (by kernel_rfl) (fun tk_ => by kernel_rfl) (fun S_ t11 hf_ u_ => ?_)
  replace hh := hh.tkN' hf_ u_ (n := (([] : List Span)).length) (by first | rfl | (simp [bytesD_len]; done) | (simp [bytesD_len]; omega))
  refine AT_loopM 0x7000000000000480 (fun k_ sl_ S_ => k_ ≤ k1 ∧ ∃ (x3 : Int), ∃ (x4 : (List Span)), ∃ (x5 : Int), ∃ (tk1 : Nat), LeL sl_ (mkS 81 [(7, i64 x3), (10, .sl 2 (x4.map Span.enc) (some tk1)), (60, .sl 14 ((rd ((rd a0.Groups a1 Group.zero).Chunks) a2 []).map PageInfo.enc) none), (61, i64 ((rd ((rd a0.Groups a1 Group.zero).Chunks) a2 []).length : Int)), (62, i64 x5)]) ∧ footer_Spans.l1 k_ a0 a1 a2 x3 x4 x5 = some r ∧ Own S [] S_ [.t tk1 (x4).length 2]) k1 ⟨Nat.le_refl _, x1, ([] : List Span), 0, t11, (le_rf (by kernel_rfl)), h, hh⟩ ?_
  clear hh h
  rintro k' sl_ S_ ⟨hk_, x3, x4, x5, tk1, hl_, h, hh⟩
  refine AT_weaken hl_ ?_
  obtain _ | k2 := k'
  · cases h
  rw [footer_Spans.l1] at h
  refine zsr ?_
  refine seg 1 [7, 10, 60, 61, 62, 63] [(63, bo (decide (x5 < ((rd ((rd a0.Groups a1 Group.zero).Chunks) a2 []).length : Int))))] [] (by kernel_rfl) (by kernel_rfl) ?_
  refine zn ?_
  refine AT_seq ?_
  refine AT_condR (decide (x5 < ((rd ((rd a0.Groups a1 Group.zero).Chunks) a2 []).length : Int))) (by kernel_rfl) (fun hc12 => ?_) (fun hc12 => ?_)
  · rw [if_f hc12] at h
    refine AT_exit ?_
    refine athen_e ?_
    refine athen_e ?_
    refine ablock_h ?_
    refine athen_n ?_
    refine zsr ?_
    refine seg 2 [6] [(6, .sl 2 (x4.map Span.enc) (some tk1))] [] (by kernel_rfl) (by kernel_rfl) ?_
    refine zn ?_
    refine AT_ret ?_
    have e_ := Option.some.inj h
    subst e_
    exact ⟨[.sl 2 (x4.map Span.enc) (some tk1)], _, S_, (.of (by kernel_rfl)), D.le.refl _, Store.le.refl _, tk1, rfl, hh⟩
  rw [if_t hc12] at h
  refine zkn ?_
  refine AT_seq ?_
  refine AT_block ?_
  refine zsr ?_
  obtain ⟨hi11, h⟩ := is h
  refine segc 1 [7, 10, 60, 61, 62, 64] [(64, .pt (((rd ((rd a0.Groups a1 Group.zero).Chunks) a2 []).map PageInfo.enc).getD (x5 : Int).toNat []))] (0 ≤ x5 ∧ x5 < (((rd ((rd a0.Groups a1 Group.zero).Chunks) a2 []).map PageInfo.enc).length : Int)) [1, 2, 3] (by kernel_rfl) (by kernel_rfl) (idx_ok hi11) ?_
  refine tod 64 (.pt (((rd ((rd a0.Groups a1 Group.zero).Chunks) a2 []).map PageInfo.enc).getD (x5 : Int).toNat [])) (.pt (PageInfo.enc (rd (rd ((rd a0.Groups a1 Group.zero).Chunks) a2 []) x5 PageInfo.zero))) (by kernel_rfl) (by rw [pt_rd PageInfo.enc (rd ((rd a0.Groups a1 Group.zero).Chunks) a2 []) x5 PageInfo.zero hi11.1 hi11.2]) ?_
  refine seg 1 [7, 10, 60, 61, 62, 65] [(65, .ag (PageInfo.enc (rd (rd ((rd a0.Groups a1 Group.zero).Chunks) a2 []) x5 PageInfo.zero)))] [2, 3] (by kernel_rfl) (by kernel_rfl) ?_
  refine AOps_newvar (zs := [i64 0, i64 0, i64 0, bo false, bo false, i64 0, str [], i64 0, i64 0, bo false, i64 0, str [], i64 0, i64 0]) (ds := (PageInfo.enc (rd (rd ((rd a0.Groups a1 Group.zero).Chunks) a2 []) x5 PageInfo.zero))) (d := 12) (tl_get rfl) rfl rfl rfl (by kernel_rfl) (by kernel_rfl) (tl_get rfl) (fun _ => rfl) rfl rfl (fun _ => rfl) rfl (by kernel_rfl) (by kernel_rfl) ?_
  refine AOps_forget 0x7000000000001480 (mkS 81 [(7, i64 x3), (10, .sl 2 (x4.map Span.enc) (some tk1)), (12, .pt (PageInfo.enc (rd (rd ((rd a0.Groups a1 Group.zero).Chunks) a2 []) x5 PageInfo.zero))), (60, .sl 14 ((rd ((rd a0.Groups a1 Group.zero).Chunks) a2 []).map PageInfo.enc) none), (61, i64 ((rd ((rd a0.Groups a1 Group.zero).Chunks) a2 []).length : Int)), (62, i64 x5)]) (by kernel_rfl) ?_
  refine znsr ?_
  refine seg 7 [7, 12, 60, 61, 62, 66, 72] [(66, .sl 2 (x4.map Span.enc) (some tk1)), (72, .ag [i64 x3, i64 (IntKind.wrap .i64 (x3 + ((rd (rd ((rd a0.Groups a1 Group.zero).Chunks) a2 []) x5 PageInfo.zero).Rows)))])] [7, 8, 9] (by kernel_rfl) (by kernel_rfl) ?_
  refine AOps_litU (sz := 2) (es := [[i64 x3, i64 (IntKind.wrap .i64 (x3 + ((rd (rd ((rd a0.Groups a1 Group.zero).Chunks) a2 []) x5 PageInfo.zero).Rows)))]]) (tl_get rfl) rfl rfl rfl (by kernel_rfl) (by decide) (by kernel_rfl) (by decide) (by kernel_rfl) (by kernel_rfl) (by intro x hx; simp only [List.mem_cons, List.not_mem_nil, or_false] at hx; rcases hx with rfl <;> rfl) (fun S_ t12 hf_ u_ => ?_)
  replace hh := hh.tkN' hf_ u_ (n := (([(⟨x3, IntKind.wrap .i64 (x3 + ((rd (rd ((rd a0.Groups a1 Group.zero).Chunks) a2 []) x5 PageInfo.zero).Rows))⟩ : Span)] : List Span)).length) (by first | rfl | (simp [bytesD_len]; done) | (simp [bytesD_len]; omega))
  refine fg [7, 12, 60, 61, 62, 66, 73] ?_
  obtain ⟨hl1, h⟩ := is h
  refine AOps_appendU (bytes := 16) (es := x4.map Span.enc) (xs := [[i64 x3, i64 (IntKind.wrap .i64 (x3 + ((rd (rd ((rd a0.Groups a1 Group.zero).Chunks) a2 []) x5 PageInfo.zero).Rows)))]]) (tl := (some t12)) (x4).length (tl_get rfl) rfl rfl rfl (by kernel_rfl) rfl (hh.tk 0 (by kernel_rfl)) (by simp only [List.length_map, List.length_cons, List.length_nil]) (.inl ⟨35, by kernel_rfl, rfl⟩) (by simp only [List.length_map, bytesD_len, List.length_cons, List.length_nil]; omega) (by simp only [List.length_map, bytesD_len, List.length_cons, List.length_nil]; omega) (fun S_ u_ => ?_)
  replace hh := hh.tkS' 0 (by kernel_rfl) u_ (n := (x4 ++ ([(⟨x3, IntKind.wrap .i64 (x3 + ((rd (rd ((rd a0.Groups a1 Group.zero).Chunks) a2 []) x5 PageInfo.zero).Rows))⟩ : Span)] : List Span)).length) (by first | rfl | (simp [bytesD_len]; done) | (simp [bytesD_len]; omega))
  refine fg [7, 12, 60, 61, 62, 74] ?_
  refine tod 74 (.sl 2 ((x4.map Span.enc) ++ [[i64 x3, i64 (IntKind.wrap .i64 (x3 + ((rd (rd ((rd a0.Groups a1 Group.zero).Chunks) a2 []) x5 PageInfo.zero).Rows)))]]) (some tk1)) (.sl 2 ((x4 ++ ([(⟨x3, IntKind.wrap .i64 (x3 + ((rd (rd ((rd a0.Groups a1 Group.zero).Chunks) a2 []) x5 PageInfo.zero).Rows))⟩ : Span)] : List Span)).map Span.enc) (some tk1)) (by kernel_rfl) (by first | rw [List.map_append]; done | (simp only [List.map_append]; done) | (simp only [List.map_append]; rfl) | (rw [List.map_append]; rfl)) ?_
  refine seg 1 [7, 10, 12, 60, 61, 62] [(10, .sl 2 ((x4 ++ ([(⟨x3, IntKind.wrap .i64 (x3 + ((rd (rd ((rd a0.Groups a1 Group.zero).Chunks) a2 []) x5 PageInfo.zero).Rows))⟩ : Span)] : List Span)).map Span.enc) (some tk1))] [] (by kernel_rfl) (by kernel_rfl) ?_
  refine znr ?_
  refine seg 5 [7, 10, 60, 61, 62] [(7, i64 (IntKind.wrap .i64 (x3 + ((rd (rd ((rd a0.Groups a1 Group.zero).Chunks) a2 []) x5 PageInfo.zero).Rows))))] [] (by kernel_rfl) (by kernel_rfl) ?_
  refine AOps_end ?_
  refine ablock_n ?_
  refine athen_n ?_
  refine AT_region ?_
  refine seg 2 [7, 10, 60, 61, 62] [(62, i64 (IntKind.wrap .i64 (x5 + 1)))] [] (by kernel_rfl) (by kernel_rfl) ?_
  refine zn ?_
  exact ⟨k2, (by omega), (by omega), IntKind.wrap .i64 (x3 + ((rd (rd ((rd a0.Groups a1 Group.zero).Chunks) a2 []) x5 PageInfo.zero).Rows)), x4 ++ ([(⟨x3, IntKind.wrap .i64 (x3 + ((rd (rd ((rd a0.Groups a1 Group.zero).Chunks) a2 []) x5 PageInfo.zero).Rows))⟩ : Span)] : List Span), IntKind.wrap .i64 (x5 + 1), tk1, (le_rf (by kernel_rfl)), h, (hh.sub [0] (by decide) (by kernel_rfl))⟩
def ref07_Schema.l0 : Nat → (List Col) → (List Col) → Int → Option (Bool)
  | 0, _, _, _ => none
  | k + 1, a0, a1, x1 => if (decide (x1 < (a0.length : Int))) = true then (if 0 ≤ x1 ∧ x1 < (a0.length : Int) then (if 0 ≤ x1 ∧ x1 < (a1.length : Int) then (if (!((((rd a0 x1 Col.zero).Name) == ((rd a1 x1 Col.zero).Name)) && ((((rd a0 x1 Col.zero).Type_) == ((rd a1 x1 Col.zero).Type_)) && ((((rd a0 x1 Col.zero).Nullable) == ((rd a1 x1 Col.zero).Nullable)) && true)))) = true then (some false) else (ref07_Schema.l0 k a0 a1 (IntKind.wrap .i64 (x1 + 1)))) else none) else none) else (some true)
def ref07_Schema.f (k : Nat) (a0 : (List Col)) (a1 : (List Col)) : Option (Bool) := if ((a0.length : Int) != (a1.length : Int)) = true then (some false) else (ref07_Schema.l0 k a0 a1 0)
theorem ref07_Schema.mono_l : ∀ k, (∀ y0 y1 y2, LeO (ref07_Schema.l0 k y0 y1 y2) (ref07_Schema.l0 (k + 1) y0 y1 y2))
  | 0 => fun _ _ _ r h => (by simp only [ref07_Schema.l0] at h; cases h)
  | k + 1 => by
    have ih := ref07_Schema.mono_l k
    · intro y0 y1 y2
      rw [ref07_Schema.l0, ref07_Schema.l0]
      repeat' first
        | exact LeO.refl _
        | exact LeO.none _
        | exact ih _ _ _
        | refine LeO.ite ?_ ?_
        | refine LeO.bind ?_ (fun _ => ?_)
theorem ref07_Schema.mono (k : Nat) (a0 : (List Col)) (a1 : (List Col)) : LeO (ref07_Schema.f k a0 a1) (ref07_Schema.f (k + 1) a0 a1) := by
  unfold ref07_Schema.f
  repeat' first
    | exact LeO.refl _
    | exact LeO.none _
    | exact (ref07_Schema.mono_l k) _ _ _
    | refine LeO.ite ?_ ?_
    | refine LeO.bind ?_ (fun _ => ?_)
theorem ref07_Schema.ok (k : Nat) (a0 : (List Col)) (a1 : (List Col)) (S : Store) (r : Bool) (h : ref07_Schema.f k a0 a1 = some r) : ACalls Try.prog 25 [.sl 3 (a0.map Col.enc) none, .sl 3 (a1.map Col.enc) none] S (fun r_ S_ => r_ = bo r ∧ Own S [] S_ []) := by
  unfold ref07_Schema.f at h
  refine acalls_of Try.func25 rfl ?_
  have hh := Own.nil (S := S)
  refine AT_forget 0x3 (mkS 26 [(0, .sl 3 (a0.map Col.enc) none), (1, .sl 3 (a1.map Col.enc) none)]) (by kernel_rfl) ?_
  refine zsr ?_
  refine seg 1 [0, 1] [] [] (by kernel_rfl) (by kernel_rfl) ?_
  refine zn ?_
  refine AT_seq ?_
  refine zsr ?_
  refine seg 2 [0, 1, 7] [(7, i64 ((a0.map Col.enc).length : Int))] [2, 3, 4] (by kernel_rfl) (by kernel_rfl) ?_
  refine tod 7 (i64 ((a0.map Col.enc).length : Int)) (i64 (a0.length : Int)) (by kernel_rfl) (by rw [List.length_map]) ?_
  refine seg 2 [0, 1, 7, 9] [(9, i64 ((a1.map Col.enc).length : Int))] [4] (by kernel_rfl) (by kernel_rfl) ?_
  refine tod 9 (i64 ((a1.map Col.enc).length : Int)) (i64 (a1.length : Int)) (by kernel_rfl) (by rw [List.length_map]) ?_
  refine seg 1 [0, 1, 10] [(10, bo ((a0.length : Int) != (a1.length : Int)))] [] (by kernel_rfl) (by kernel_rfl) ?_
  refine zn ?_
  refine AT_condS ((a0.length : Int) != (a1.length : Int)) (by kernel_rfl) (fun hc1 => ?_) (fun hc1 => ?_)
  · rw [if_t hc1] at h
    refine zsr ?_
    refine seg 1 [4] [(4, bo false)] [] (by kernel_rfl) (by kernel_rfl) ?_
    refine zn ?_
    refine AT_ret ?_
    refine athen_r ?_
    have e_ := Option.some.inj h
    subst e_
    exact ⟨[bo false], _, S, (.of (by kernel_rfl)), D.le.refl _, Store.le.refl _, rfl, hh⟩
  rw [if_f hc1] at h
  refine zkn ?_
  refine AT_seq ?_
  refine zsr ?_
  refine seg 1 [0, 1, 5] [(5, i64 0)] [] (by kernel_rfl) (by kernel_rfl) ?_
  refine zn ?_
  refine AT_block ?_
  refine AT_loopM 0x23 (fun k_ sl_ S_ => k_ ≤ k ∧ ∃ (x1 : Int), LeL sl_ (mkS 26 [(0, .sl 3 (a0.map Col.enc) none), (1, .sl 3 (a1.map Col.enc) none), (5, i64 x1)]) ∧ ref07_Schema.l0 k_ a0 a1 x1 = some r ∧ Own S [] S_ []) k ⟨Nat.le_refl _, 0, (le_rf (by kernel_rfl)), h, hh⟩ ?_
  clear hh h
  rintro k' sl_ S_ ⟨hk_, x1, hl_, h, hh⟩
  refine AT_weaken hl_ ?_
  obtain _ | k1 := k'
  · cases h
  rw [ref07_Schema.l0] at h
  refine AT_seq ?_
  refine zsr ?_
  refine seg 3 [0, 1, 5, 11, 13] [(11, i64 x1), (13, i64 ((a0.map Col.enc).length : Int))] [3] (by kernel_rfl) (by kernel_rfl) ?_
  refine tod 13 (i64 ((a0.map Col.enc).length : Int)) (i64 (a0.length : Int)) (by kernel_rfl) (by rw [List.length_map]) ?_
  refine seg 1 [0, 1, 5, 14] [(14, bo (decide (x1 < (a0.length : Int))))] [] (by kernel_rfl) (by kernel_rfl) ?_
  refine zn ?_
  refine AT_condR (decide (x1 < (a0.length : Int))) (by kernel_rfl) (fun hc2 => ?_) (fun hc2 => ?_)
  · rw [if_f hc2] at h
    refine AT_exit ?_
    refine athen_e ?_
    refine athen_e ?_
    refine ablock_h ?_
    refine athen_n ?_
    refine zsr ?_
    refine seg 1 [4] [(4, bo true)] [] (by kernel_rfl) (by kernel_rfl) ?_
    refine zn ?_
    refine AT_ret ?_
    have e_ := Option.some.inj h
    subst e_
    exact ⟨[bo true], _, S_, (.of (by kernel_rfl)), D.le.refl _, Store.le.refl _, rfl, hh⟩
  rw [if_t hc2] at h
  refine zkn ?_
  refine AT_seq ?_
  refine AT_block ?_
  refine AT_seq ?_
  refine AT_draw [] 9 (fun _ => True) (by kernel_rfl) ?_
  refine aseg 9 [] [0, 1, 5] [] #[false, false, false, false, false, false, false, false, false] (by kernel_rfl) (by kernel_rfl) ?_
  obtain ⟨hi4, h⟩ := is h
  refine asegc 6 [0, 1, 2] [0, 1, 5, 19] [(19, .pt ((a0.map Col.enc).getD (x1 : Int).toNat []))] (0 ≤ x1 ∧ x1 < ((a0.map Col.enc).length : Int)) #[true, true, true, false, false, false, false, false, false] (by kernel_rfl) (idx_ok hi4) (by kernel_rfl) ?_
  refine atod 19 (.pt ((a0.map Col.enc).getD (x1 : Int).toNat [])) (.pt (Col.enc (rd a0 x1 Col.zero))) (by kernel_rfl) (by rw [pt_rd Col.enc a0 x1 Col.zero hi4.1 hi4.2]) ?_
  obtain ⟨hi5, h⟩ := is h
  refine asegc 2 [3, 4, 5, 6] [0, 1, 5, 20, 23] [(20, .ag (Col.enc (rd a0 x1 Col.zero))), (23, .pt ((a1.map Col.enc).getD (x1 : Int).toNat []))] (0 ≤ x1 ∧ x1 < ((a1.map Col.enc).length : Int)) #[true, true, true, true, true, true, true, false, false] (by kernel_rfl) (idx_ok hi5) (by kernel_rfl) ?_
  refine atod 23 (.pt ((a1.map Col.enc).getD (x1 : Int).toNat [])) (.pt (Col.enc (rd a1 x1 Col.zero))) (by kernel_rfl) (by rw [pt_rd Col.enc a1 x1 Col.zero hi5.1 hi5.2]) ?_
  refine aseg 0 [7, 8] [0, 1, 5, 25] [(25, bo (!((((rd a0 x1 Col.zero).Name) == ((rd a1 x1 Col.zero).Name)) && ((((rd a0 x1 Col.zero).Type_) == ((rd a1 x1 Col.zero).Type_)) && ((((rd a0 x1 Col.zero).Nullable) == ((rd a1 x1 Col.zero).Nullable)) && true)))))] #[true, true, true, true, true, true, true, true, true] (by kernel_rfl) (by kernel_rfl) ?_
  refine AAny_end (.inr trivial) (by kernel_rfl) ?_
  refine athen_n ?_
  refine AT_condR (!((((rd a0 x1 Col.zero).Name) == ((rd a1 x1 Col.zero).Name)) && ((((rd a0 x1 Col.zero).Type_) == ((rd a1 x1 Col.zero).Type_)) && ((((rd a0 x1 Col.zero).Nullable) == ((rd a1 x1 Col.zero).Nullable)) && true)))) (by kernel_rfl) (fun hc3 => ?_) (fun hc3 => ?_)
  · rw [if_f hc3] at h
    refine AT_skip ?_
    refine ablock_n ?_
    refine athen_n ?_
    refine AT_region ?_
    refine seg 3 [0, 1, 5] [(5, i64 (IntKind.wrap .i64 (x1 + 1)))] [] (by kernel_rfl) (by kernel_rfl) ?_
    refine zn ?_
    exact ⟨k1, (by omega), (by omega), IntKind.wrap .i64 (x1 + 1), (le_rf (by kernel_rfl)), h, hh⟩
  rw [if_t hc3] at h
  refine zsr ?_
  refine seg 1 [4] [(4, bo false)] [] (by kernel_rfl) (by kernel_rfl) ?_
  refine zn ?_
  refine AT_ret ?_
  refine ablock_r ?_
  refine athen_r ?_
  refine athen_r ?_
  refine ablock_r ?_
  refine athen_r ?_
  have e_ := Option.some.inj h
  subst e_
  exact ⟨[bo false], _, S_, (.of (by kernel_rfl)), D.le.refl _, Store.le.refl _, rfl, hh⟩
end Go.Proofs.Ytfaojkajlpojlaa.Abs
