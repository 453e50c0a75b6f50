/- What functions of the program compute, each with the proof that it does (printed by wip/gen/all2.py). -/
import Derived.Test.YtfaojkajlpojlaaV18
import Derived.KernelRfl
namespace Go.Proofs.Ytfaojkajlpojlaa.Abs
open Go
set_option maxRecDepth 100000
mutual
def law19_FooterStands.j3 : Nat → Footer → Bool → Int → Int → Int → (List Span) → Int → Int → Option (Bool)
  | 0, _, _, _, _, _, _, _, _ => none
  | k + 1, a0, v1, x2, x3, x5, v5, x6, x7 => if 0 ≤ x7 ∧ x7 < ((rd ((rd a0.Groups x3 Group.zero).Chunks) x5 []).length : Int) then (law19_FooterStands.l2 k a0 v1 x2 x3 x5 v5 (IntKind.wrap .i64 (x6 + ((rd (rd ((rd a0.Groups x3 Group.zero).Chunks) x5 []) x7 PageInfo.zero).Size))) (IntKind.wrap .i64 (x7 + 1))) else none
def law19_FooterStands.l2 : Nat → Footer → Bool → Int → Int → Int → (List Span) → Int → Int → Option (Bool)
  | 0, _, _, _, _, _, _, _, _ => none
  | k + 1, a0, v1, x2, x3, x5, v5, x6, x7 => if (decide (x7 < ((rd ((rd a0.Groups x3 Group.zero).Chunks) x5 []).length : Int))) = true then ((footer_Place.f k a0 x3 x5 x7).bind fun v7 => (if (v7 != x6) = true then (some false) else (if 0 ≤ x7 ∧ x7 < (v5.length : Int) then (if 0 ≤ x7 ∧ x7 < (v5.length : Int) then (if 0 ≤ x7 ∧ x7 < ((rd ((rd a0.Groups x3 Group.zero).Chunks) x5 []).length : Int) then (if ((IntKind.wrap .i64 (((rd v5 x7 Span.zero).To) - ((rd v5 x7 Span.zero).From))) != ((rd (rd ((rd a0.Groups x3 Group.zero).Chunks) x5 []) x7 PageInfo.zero).Rows)) = true then (some false) else (if (decide (x7 > 0)) = true then (if 0 ≤ x7 ∧ x7 < (v5.length : Int) then (if 0 ≤ (IntKind.wrap .i64 (x7 - 1)) ∧ (IntKind.wrap .i64 (x7 - 1)) < (v5.length : Int) then (if (((rd v5 x7 Span.zero).From) != ((rd v5 (IntKind.wrap .i64 (x7 - 1)) Span.zero).To)) = true then (some false) else (law19_FooterStands.j3 k a0 v1 x2 x3 x5 v5 x6 x7)) else none) else none) else (law19_FooterStands.j3 k a0 v1 x2 x3 x5 v5 x6 x7))) else none) else none) else none))) else ((footer_Place.f k a0 x3 x5 ((rd ((rd a0.Groups x3 Group.zero).Chunks) x5 []).length : Int)).bind fun v8 => (if (v8 != (-1)) = true then (some false) else (law19_FooterStands.l1 k a0 v1 x2 x3 x6 (IntKind.wrap .i64 (x5 + 1)))))
def law19_FooterStands.l1 : Nat → Footer → Bool → Int → Int → Int → Int → Option (Bool)
  | 0, _, _, _, _, _, _ => none
  | k + 1, a0, v1, x2, x3, x4, x5 => if (decide (x5 < (a0.Cols.length : Int))) = true then (if 0 ≤ x3 ∧ x3 < (a0.Groups.length : Int) then (if 0 ≤ x5 ∧ x5 < (((rd a0.Groups x3 Group.zero).Chunks).length : Int) then ((footer_Spans.f k a0 x3 x5).bind fun v5 => (if ((v5.length : Int) != ((rd ((rd a0.Groups x3 Group.zero).Chunks) x5 []).length : Int)) = true then (some false) else (if (((rd ((rd a0.Groups x3 Group.zero).Chunks) x5 []).length : Int) == 0) = true then (some false) else (if 0 ≤ (0 : Int) ∧ (0 : Int) < (v5.length : Int) then (if (((rd v5 0 Span.zero).From) != x2) = true then (some false) else (if 0 ≤ (IntKind.wrap .i64 ((v5.length : Int) - 1)) ∧ (IntKind.wrap .i64 ((v5.length : Int) - 1)) < (v5.length : Int) then (if 0 ≤ x3 ∧ x3 < (a0.Groups.length : Int) then (if (((rd v5 (IntKind.wrap .i64 ((v5.length : Int) - 1)) Span.zero).To) != (IntKind.wrap .i64 (x2 + ((rd a0.Groups x3 Group.zero).Rows)))) = true then (some false) else (law19_FooterStands.l2 k a0 v1 x2 x3 x5 v5 x4 0)) else none) else none)) else none)))) else none) else none) else (if 0 ≤ x3 ∧ x3 < (a0.Groups.length : Int) then (law19_FooterStands.l0 k a0 v1 x4 (IntKind.wrap .i64 (x2 + ((rd a0.Groups x3 Group.zero).Rows))) (IntKind.wrap .i64 (x3 + 1))) else none)
def law19_FooterStands.l0 : Nat → Footer → Bool → Int → Int → Int → Option (Bool)
  | 0, _, _, _, _, _ => none
  | k + 1, a0, v1, x1, x2, x3 => if (decide (x3 < (a0.Groups.length : Int))) = true then (law19_FooterStands.l1 k a0 v1 x2 x3 x1 0) else (if v1 = true then ((footer_Place.f k a0 (a0.Groups.length : Int) 0 0).bind fun v9 => (if (v9 == x1) = true then (some (x2 == a0.Rows)) else (some false))) else (some false))
end
def law19_FooterStands.f (k : Nat) (a0 : Footer) : Option (Bool) := (law19_small.f k ).bind fun v1 => ((law19_Few.f k a0).bind fun v2 => (if (!v2) = true then (some v1) else ((ref19_Right.f k a0).bind fun v4 => (if (!v4) = true then (some v1) else (law19_FooterStands.l0 k a0 v1 0 0 0)))))
theorem law19_FooterStands.mono_l : ∀ k, (∀ y0 y1 y2 y3 y4 y5 y6 y7, LeO (law19_FooterStands.j3 k y0 y1 y2 y3 y4 y5 y6 y7) (law19_FooterStands.j3 (k + 1) y0 y1 y2 y3 y4 y5 y6 y7)) ∧ (∀ y0 y1 y2 y3 y4 y5 y6 y7, LeO (law19_FooterStands.l2 k y0 y1 y2 y3 y4 y5 y6 y7) (law19_FooterStands.l2 (k + 1) y0 y1 y2 y3 y4 y5 y6 y7)) ∧ (∀ y0 y1 y2 y3 y4 y5, LeO (law19_FooterStands.l1 k y0 y1 y2 y3 y4 y5) (law19_FooterStands.l1 (k + 1) y0 y1 y2 y3 y4 y5)) ∧ (∀ y0 y1 y2 y3 y4, LeO (law19_FooterStands.l0 k y0 y1 y2 y3 y4) (law19_FooterStands.l0 (k + 1) y0 y1 y2 y3 y4))
  | 0 => ⟨fun _ _ _ _ _ _ _ _ r h => (by simp only [law19_FooterStands.j3] at h; cases h), fun _ _ _ _ _ _ _ _ r h => (by simp only [law19_FooterStands.l2] at h; cases h), fun _ _ _ _ _ _ r h => (by simp only [law19_FooterStands.l1] at h; cases h), fun _ _ _ _ _ r h => (by simp only [law19_FooterStands.l0] at h; cases h)⟩
  | k + 1 => by
    have ih := law19_FooterStands.mono_l k
    refine ⟨?_, ?_, ?_, ?_⟩
    · intro y0 y1 y2 y3 y4 y5 y6 y7
      rw [law19_FooterStands.j3, law19_FooterStands.j3]
      repeat' first
        | exact LeO.refl _
        | exact LeO.none _
        | exact ih.1 _ _ _ _ _ _ _ _
        | exact ih.2.1 _ _ _ _ _ _ _ _
        | exact ih.2.2.1 _ _ _ _ _ _
        | exact ih.2.2.2 _ _ _ _ _
        | exact footer_Place.mono _ _ _ _ _
        | exact footer_Spans.mono _ _ _ _
        | exact law19_Few.mono _ _
        | exact law19_small.mono _
        | exact ref19_Right.mono _ _
        | refine LeO.ite ?_ ?_
        | refine LeO.bind ?_ (fun _ => ?_)
    · intro y0 y1 y2 y3 y4 y5 y6 y7
      rw [law19_FooterStands.l2, law19_FooterStands.l2]
      repeat' first
        | exact LeO.refl _
        | exact LeO.none _
        | exact ih.1 _ _ _ _ _ _ _ _
        | exact ih.2.1 _ _ _ _ _ _ _ _
        | exact ih.2.2.1 _ _ _ _ _ _
        | exact ih.2.2.2 _ _ _ _ _
        | exact footer_Place.mono _ _ _ _ _
        | exact footer_Spans.mono _ _ _ _
        | exact law19_Few.mono _ _
        | exact law19_small.mono _
        | exact ref19_Right.mono _ _
        | refine LeO.ite ?_ ?_
        | refine LeO.bind ?_ (fun _ => ?_)
    · intro y0 y1 y2 y3 y4 y5
      rw [law19_FooterStands.l1, law19_FooterStands.l1]
      repeat' first
        | exact LeO.refl _
        | exact LeO.none _
        | exact ih.1 _ _ _ _ _ _ _ _
        | exact ih.2.1 _ _ _ _ _ _ _ _
        | exact ih.2.2.1 _ _ _ _ _ _
        | exact ih.2.2.2 _ _ _ _ _
        | exact footer_Place.mono _ _ _ _ _
        | exact footer_Spans.mono _ _ _ _
        | exact law19_Few.mono _ _
        | exact law19_small.mono _
        | exact ref19_Right.mono _ _
        | refine LeO.ite ?_ ?_
        | refine LeO.bind ?_ (fun _ => ?_)
    · intro y0 y1 y2 y3 y4
      rw [law19_FooterStands.l0, law19_FooterStands.l0]
      repeat' first
        | exact LeO.refl _
        | exact LeO.none _
        | exact ih.1 _ _ _ _ _ _ _ _
        | exact ih.2.1 _ _ _ _ _ _ _ _
        | exact ih.2.2.1 _ _ _ _ _ _
        | exact ih.2.2.2 _ _ _ _ _
        | exact footer_Place.mono _ _ _ _ _
        | exact footer_Spans.mono _ _ _ _
        | exact law19_Few.mono _ _
        | exact law19_small.mono _
        | exact ref19_Right.mono _ _
        | refine LeO.ite ?_ ?_
        | refine LeO.bind ?_ (fun _ => ?_)
theorem law19_FooterStands.mono (k : Nat) (a0 : Footer) : LeO (law19_FooterStands.f k a0) (law19_FooterStands.f (k + 1) a0) := by
  unfold law19_FooterStands.f
  repeat' first
    | exact LeO.refl _
    | exact LeO.none _
    | exact (law19_FooterStands.mono_l k).1 _ _ _ _ _ _ _ _
    | exact (law19_FooterStands.mono_l k).2.1 _ _ _ _ _ _ _ _
    | exact (law19_FooterStands.mono_l k).2.2.1 _ _ _ _ _ _
    | exact (law19_FooterStands.mono_l k).2.2.2 _ _ _ _ _
    | exact footer_Place.mono _ _ _ _ _
    | exact footer_Spans.mono _ _ _ _
    | exact law19_Few.mono _ _
    | exact law19_small.mono _
    | exact ref19_Right.mono _ _
    | refine LeO.ite ?_ ?_
    | refine LeO.bind ?_ (fun _ => ?_)
theorem law19_FooterStands.ok (k : Nat) (a0 : Footer) (S : Store) (r : Bool) (h : law19_FooterStands.f k a0 = some r) : ACalls Try.prog 3 [.ag (Footer.enc a0)] S (fun r_ S_ => r_ = bo r ∧ Own S [] S_ []) := by
  unfold law19_FooterStands.f at h
  refine acalls_of Try.func3 rfl ?_
  have hh := Own.nil (S := S)
  refine AT_forget 0x1 (mkS 174 [(0, .ag (Footer.enc a0))]) (by kernel_rfl) ?_
  refine zsr ?_
  refine AOps_box_im (ds := (Footer.enc a0)) (tl_get rfl) rfl rfl (by kernel_rfl) ?_
  refine fg [1] ?_
  refine seg 1 [1] [] [] (by kernel_rfl) (by kernel_rfl) ?_
  refine znsr ?_
  obtain ⟨v1, ht1, h⟩ := bs h
  refine AOps_callR _ [] (tl_get rfl) rfl rfl rfl rfl Try.func4 (by decide) rfl ((.nil)) (law19_small.ok _  _  _ ht1) ?_
  rintro _ S_ ⟨rfl, h2_⟩
  replace hh := hh.call0 h2_
  refine fg [1, 12] ?_
  refine seg 1 [1, 3] [(3, bo v1)] [] (by kernel_rfl) (by kernel_rfl) ?_
  refine znsr ?_
  refine seg 1 [1, 3, 13] [(13, .ag (Footer.enc a0))] [1, 2] (by kernel_rfl) (by kernel_rfl) ?_
  obtain ⟨v2, ht2, h⟩ := bs h
  refine AOps_callR _ [.ag (Footer.enc a0)] (tl_get rfl) rfl rfl rfl rfl Try.func5 (by decide) rfl ((.cons (D.le.refl _) (.nil))) (law19_Few.ok _ a0 _  _ ht2) ?_
  rintro _ S_ ⟨rfl, h2_⟩
  replace hh := hh.call0 h2_
  refine fg [1, 3, 14] ?_
  refine seg 1 [1, 3, 4] [(4, bo v2)] [] (by kernel_rfl) (by kernel_rfl) ?_
  refine zn ?_
  refine AT_seq ?_
  refine zsr ?_
  refine seg 3 [1, 3, 17] [(17, bo (!v2))] [3, 4, 5, 6] (by kernel_rfl) (by kernel_rfl) ?_
  refine cased 17 (!v2) (by kernel_rfl) (fun hc3 => ?_) (fun hc3 => ?_)
  · rw [if_t hc3] at h
    refine AOps_seg 4 0x20000a (mkS 174 [(1, .pt (Footer.enc a0)), (3, bo v1), (21, bo true)]) none [] (by kernel_rfl) (by kernel_rfl) trivial ?_
    refine zn ?_
    refine AT_cond_t (by kernel_rfl) ?_
    refine zsr ?_
    refine seg 2 [2] [(2, bo v1)] [] (by kernel_rfl) (by kernel_rfl) ?_
    refine zn ?_
    refine AT_ret ?_
    refine athen_r ?_
    have e_ := Option.some.inj h
    subst e_
    exact ⟨[bo v1], _, S_, (.of (by kernel_rfl)), D.le.refl _, Store.le.refl _, rfl, hh⟩
  rw [if_f hc3] at h
  refine AOps_seg 1 0x6000a (mkS 174 [(1, .pt (Footer.enc a0)), (3, bo v1), (17, bo false), (18, .ag (Footer.enc a0))]) none [4, 5, 6] (by kernel_rfl) (by kernel_rfl) trivial ?_
  obtain ⟨v4, ht4, h⟩ := bs h
  refine AOps_callR _ [.ag (Footer.enc a0)] (tl_get rfl) rfl rfl rfl rfl Try.func6 (by decide) rfl ((.cons (D.le.refl _) (.nil))) (ref19_Right.ok _ a0 _  _ ht4) ?_
  rintro _ S_ ⟨rfl, h2_⟩
  replace hh := hh.call0 h2_
  refine fg [1, 3, 17, 19] ?_
  refine seg 2 [1, 3, 21] [(21, bo (!v4))] [] (by kernel_rfl) (by kernel_rfl) ?_
  refine zn ?_
  refine AT_condS (!v4) (by kernel_rfl) (fun hc4 => ?_) (fun hc4 => ?_)
  · rw [if_t hc4] at h
    refine zsr ?_
    refine seg 2 [2] [(2, bo v1)] [] (by kernel_rfl) (by kernel_rfl) ?_
    refine zn ?_
    refine AT_ret ?_
    refine athen_r ?_
    have e_ := Option.some.inj h
    subst e_
    exact ⟨[bo v1], _, S_, (.of (by kernel_rfl)), D.le.refl _, Store.le.refl _, rfl, hh⟩
  rw [if_f hc4] at h
  refine zkn ?_
  refine zsr ?_
  refine seg 1 [1, 3, 5] [(5, i64 0)] [] (by kernel_rfl) (by kernel_rfl) ?_
  refine znsr ?_
  refine seg 1 [1, 3, 5, 6] [(6, i64 0)] [] (by kernel_rfl) (by kernel_rfl) ?_
  refine zn ?_
  refine AT_seq ?_
  refine zsr ?_
  refine seg 1 [1, 3, 5, 6, 7] [(7, i64 0)] [] (by kernel_rfl) (by kernel_rfl) ?_
  refine zn ?_
  refine AT_block ?_
  refine AT_loopM 0xea (fun k_ sl_ S_ => k_ ≤ k ∧ ∃ (x1 : Int), ∃ (x2 : Int), ∃ (x3 : Int), LeL sl_ (mkS 174 [(1, .pt (Footer.enc a0)), (3, bo v1), (5, i64 x1), (6, i64 x2), (7, i64 x3)]) ∧ law19_FooterStands.l0 k_ a0 v1 x1 x2 x3 = some r ∧ Own S [] S_ []) k ⟨Nat.le_refl _, 0, 0, 0, (le_rf (by kernel_rfl)), h, hh⟩ ?_
  clear hh h
  rintro k' sl_ S_ ⟨hk_, x1, x2, x3, hl_, h, hh⟩
  refine AT_weaken hl_ ?_
  obtain _ | k1 := k'
  · cases h
  rw [law19_FooterStands.l0] at h
  refine AT_seq ?_
  refine zsr ?_
  refine seg 4 [1, 3, 5, 6, 7, 23, 26] [(23, i64 x3), (26, i64 ((a0.Groups.map Group.enc).length : Int))] [4] (by kernel_rfl) (by kernel_rfl) ?_
  refine tod 26 (i64 ((a0.Groups.map Group.enc).length : Int)) (i64 (a0.Groups.length : Int)) (by kernel_rfl) (by rw [List.length_map]) ?_
  refine seg 1 [1, 3, 5, 6, 7, 27] [(27, bo (decide (x3 < (a0.Groups.length : Int))))] [] (by kernel_rfl) (by kernel_rfl) ?_
  refine zn ?_
  refine AT_condR (decide (x3 < (a0.Groups.length : Int))) (by kernel_rfl) (fun hc5 => ?_) (fun hc5 => ?_)
  · rw [if_f hc5] at h
    refine AT_exit ?_
    refine athen_e ?_
    refine athen_e ?_
    refine ablock_h ?_
    refine athen_n ?_
    refine zsr ?_
    refine seg 2 [1, 5, 6, 159] [(159, bo v1)] [2, 3, 4, 5, 6, 7, 8, 9, 10, 11, 12, 13, 14, 15, 16] (by kernel_rfl) (by kernel_rfl) ?_
    refine casedR 159 v1 (by kernel_rfl) (fun hc25 => ?_) (fun hc25 => ?_)
    · rw [if_f hc25] at h
      refine seg 15 [2] [(2, bo false)] [] (by kernel_rfl) (by kernel_rfl) ?_
      refine zn ?_
      refine AT_ret ?_
      have e_ := Option.some.inj h
      subst e_
      exact ⟨[bo false], _, S_, (.of (by kernel_rfl)), D.le.refl _, Store.le.refl _, rfl, hh⟩
    rw [if_t hc25] at h
    refine seg 4 [1, 5, 6, 159, 160, 163] [(160, .ag (Footer.enc a0)), (163, i64 ((a0.Groups.map Group.enc).length : Int))] [6, 7, 8, 9, 10, 11, 12, 13, 14, 15, 16] (by kernel_rfl) (by kernel_rfl) ?_
    refine tod 163 (i64 ((a0.Groups.map Group.enc).length : Int)) (i64 (a0.Groups.length : Int)) (by kernel_rfl) (by rw [List.length_map]) ?_
    obtain ⟨v9, ht9, h⟩ := bs h
    refine AOps_callR _ [.ag (Footer.enc a0), i64 (a0.Groups.length : Int), i64 0, i64 0] (tl_get rfl) rfl rfl rfl rfl Try.func8 (by decide) rfl ((.cons (D.le.refl _) (.cons (D.le.refl _) (.cons (D.le.refl _) (.cons (D.le.refl _) (.nil)))))) (footer_Place.ok _ a0 (a0.Groups.length : Int) 0 0 _  _ ht9) ?_
    rintro _ S_ ⟨rfl, h2_⟩
    replace hh := hh.call0 h2_
    refine fg [1, 5, 6, 159, 164] ?_
    refine seg 4 [1, 6, 168] [(168, bo (v9 == x1))] [11, 12, 13, 14, 15, 16] (by kernel_rfl) (by kernel_rfl) ?_
    refine cased 168 (v9 == x1) (by kernel_rfl) (fun hc26 => ?_) (fun hc26 => ?_)
    · rw [if_t hc26] at h
      refine seg 6 [2] [(2, bo (x2 == a0.Rows))] [] (by kernel_rfl) (by kernel_rfl) ?_
      refine zn ?_
      refine AT_ret ?_
      have e_ := Option.some.inj h
      subst e_
      exact ⟨[bo (x2 == a0.Rows)], _, S_, (.of (by kernel_rfl)), D.le.refl _, Store.le.refl _, rfl, hh⟩
    rw [if_f hc26] at h
    refine seg 6 [2] [(2, bo false)] [] (by kernel_rfl) (by kernel_rfl) ?_
    refine zn ?_
    refine AT_ret ?_
    have e_ := Option.some.inj h
    subst e_
    exact ⟨[bo false], _, S_, (.of (by kernel_rfl)), D.le.refl _, Store.le.refl _, rfl, hh⟩
  rw [if_t hc5] at h
  refine zkn ?_
  refine AT_seq ?_
  refine AT_block ?_
  refine AT_seq ?_
  refine zsr ?_
  refine seg 1 [1, 3, 5, 6, 7, 8] [(8, i64 0)] [] (by kernel_rfl) (by kernel_rfl) ?_
  refine zn ?_
  refine AT_block ?_
  refine AT_loopM 0x1ea (fun k_ sl_ S_ => k_ ≤ k1 ∧ ∃ (x4 : Int), ∃ (x5 : Int), LeL sl_ (mkS 174 [(1, .pt (Footer.enc a0)), (3, bo v1), (5, i64 x4), (6, i64 x2), (7, i64 x3), (8, i64 x5)]) ∧ law19_FooterStands.l1 k_ a0 v1 x2 x3 x4 x5 = some r ∧ Own S [] S_ []) k1 ⟨Nat.le_refl _, x1, 0, (le_rf (by kernel_rfl)), h, hh⟩ ?_
  clear hh h
  rintro k' sl_ S_ ⟨hk_, x4, x5, hl_, h, hh⟩
  refine AT_weaken hl_ ?_
  obtain _ | k2 := k'
  · cases h
  rw [law19_FooterStands.l1] at h
  refine AT_seq ?_
  refine zsr ?_
  refine seg 4 [1, 3, 5, 6, 7, 8, 30, 33] [(30, i64 x5), (33, i64 ((a0.Cols.map Col.enc).length : Int))] [4] (by kernel_rfl) (by kernel_rfl) ?_
  refine tod 33 (i64 ((a0.Cols.map Col.enc).length : Int)) (i64 (a0.Cols.length : Int)) (by kernel_rfl) (by rw [List.length_map]) ?_
  refine seg 1 [1, 3, 5, 6, 7, 8, 34] [(34, bo (decide (x5 < (a0.Cols.length : Int))))] [] (by kernel_rfl) (by kernel_rfl) ?_
  refine zn ?_
  refine AT_condR (decide (x5 < (a0.Cols.length : Int))) (by kernel_rfl) (fun hc6 => ?_) (fun hc6 => ?_)
  · rw [if_f hc6] at h
    refine AT_exit ?_
    refine athen_e ?_
    refine athen_e ?_
    refine ablock_h ?_
    refine athen_n ?_
    refine AT_region ?_
    obtain ⟨hi32, h⟩ := is h
    refine segc 5 [1, 3, 5, 7, 150, 154] [(150, i64 x2), (154, .pt ((a0.Groups.map Group.enc).getD (x3 : Int).toNat []))] (0 ≤ x3 ∧ x3 < ((a0.Groups.map Group.enc).length : Int)) [5, 6, 7, 8] (by kernel_rfl) (by kernel_rfl) (idx_ok hi32) ?_
    refine tod 154 (.pt ((a0.Groups.map Group.enc).getD (x3 : Int).toNat [])) (.pt (Group.enc (rd a0.Groups x3 Group.zero))) (by kernel_rfl) (by rw [pt_rd Group.enc a0.Groups x3 Group.zero hi32.1 hi32.2]) ?_
    refine seg 4 [1, 3, 5, 6, 7] [(6, i64 (IntKind.wrap .i64 (x2 + ((rd a0.Groups x3 Group.zero).Rows))))] [] (by kernel_rfl) (by kernel_rfl) ?_
    refine AOps_end ?_
    refine ablock_n ?_
    refine athen_n ?_
    refine AT_region ?_
    refine seg 3 [1, 3, 5, 6, 7] [(7, i64 (IntKind.wrap .i64 (x3 + 1)))] [] (by kernel_rfl) (by kernel_rfl) ?_
    refine zn ?_
    exact ⟨k2, (by omega), (by omega), x4, IntKind.wrap .i64 (x2 + ((rd a0.Groups x3 Group.zero).Rows)), IntKind.wrap .i64 (x3 + 1), (le_rf (by kernel_rfl)), h, hh⟩
  rw [if_t hc6] at h
  refine zkn ?_
  refine AT_seq ?_
  refine AT_block ?_
  refine zsr ?_
  obtain ⟨hi3, h⟩ := is h
  refine segc 4 [1, 3, 5, 6, 7, 8, 40] [(40, .pt ((a0.Groups.map Group.enc).getD (x3 : Int).toNat []))] (0 ≤ x3 ∧ x3 < ((a0.Groups.map Group.enc).length : Int)) [4, 5, 6, 7, 8, 9] (by kernel_rfl) (by kernel_rfl) (idx_ok hi3) ?_
  refine tod 40 (.pt ((a0.Groups.map Group.enc).getD (x3 : Int).toNat [])) (.pt (Group.enc (rd a0.Groups x3 Group.zero))) (by kernel_rfl) (by rw [pt_rd Group.enc a0.Groups x3 Group.zero hi3.1 hi3.2]) ?_
  obtain ⟨hi4, h⟩ := is h
  refine segc 4 [1, 3, 5, 6, 7, 8, 44] [(44, .pt ((((rd a0.Groups x3 Group.zero).Chunks).map (eL 14 PageInfo.enc)).getD (x5 : Int).toNat []))] (0 ≤ x5 ∧ x5 < ((((rd a0.Groups x3 Group.zero).Chunks).map (eL 14 PageInfo.enc)).length : Int)) [8, 9] (by kernel_rfl) (by kernel_rfl) (idx_ok hi4) ?_
  refine tod 44 (.pt ((((rd a0.Groups x3 Group.zero).Chunks).map (eL 14 PageInfo.enc)).getD (x5 : Int).toNat [])) (.pt [.sl 14 ((rd ((rd a0.Groups x3 Group.zero).Chunks) x5 []).map PageInfo.enc) none]) (by kernel_rfl) (by rw [pt_rd (eL 14 PageInfo.enc) ((rd a0.Groups x3 Group.zero).Chunks) x5 [] hi4.1 hi4.2]) ?_
  refine seg 2 [1, 3, 5, 6, 7, 8, 9] [(9, .sl 14 ((rd ((rd a0.Groups x3 Group.zero).Chunks) x5 []).map PageInfo.enc) none)] [] (by kernel_rfl) (by kernel_rfl) ?_
  refine znsr ?_
  refine seg 3 [1, 3, 5, 6, 7, 8, 9, 46, 47, 48] [(46, .ag (Footer.enc a0)), (47, i64 x3), (48, i64 x5)] [3, 4] (by kernel_rfl) (by kernel_rfl) ?_
  obtain ⟨v5, ht5, h⟩ := bs h
  refine AOps_callR _ [.ag (Footer.enc a0), i64 x3, i64 x5] (tl_get rfl) rfl rfl rfl rfl Try.func7 (by decide) rfl ((.cons (D.le.refl _) (.cons (D.le.refl _) (.cons (D.le.refl _) (.nil))))) (footer_Spans.ok _ a0 x3 x5 _  _ ht5) ?_
  rintro _ S_ ⟨t1, rfl, h2_⟩
  replace hh := hh.calln h2_
  refine fg [1, 3, 5, 6, 7, 8, 9, 49] ?_
  refine seg 1 [1, 3, 5, 6, 7, 8, 9, 10] [(10, .sl 2 (v5.map Span.enc) (some t1))] [] (by kernel_rfl) (by kernel_rfl) ?_
  refine zn ?_
  refine AT_seq ?_
  refine AT_seq ?_
  refine AT_draw [] 36 (fun _ => True) (by kernel_rfl) ?_
  refine AAny_seg 36 [] 0x3ffffffffc0000000007ea (mkS 174 [(1, .pt (Footer.enc a0)), (3, bo v1), (5, i64 x4), (6, i64 x2), (7, i64 x3), (8, i64 x5), (9, .sl 14 ((rd ((rd a0.Groups x3 Group.zero).Chunks) x5 []).map PageInfo.enc) none), (10, .sl 2 (v5.map Span.enc) (some t1))]) none #[false, false, false, false, false, false, false, false, false, false, false, false, false, false, false, false, false, false, false, false, false, false, false, false, false, false, false, false, false, false, false, false, false, false, false, false] (by kernel_rfl) trivial (by kernel_rfl) ?_
  refine aseg 34 [0, 1] [1, 3, 5, 6, 7, 8, 9, 10, 51] [(51, i64 ((v5.map Span.enc).length : Int))] #[true, true, false, false, false, false, false, false, false, false, false, false, false, false, false, false, false, false, false, false, false, false, false, false, false, false, false, false, false, false, false, false, false, false, false, false] (by kernel_rfl) (by kernel_rfl) ?_
  refine atod 51 (i64 ((v5.map Span.enc).length : Int)) (i64 (v5.length : Int)) (by kernel_rfl) (by rw [List.length_map]) ?_
  refine aseg 32 [2, 3] [1, 3, 5, 6, 7, 8, 9, 10, 51, 53] [(53, i64 (((rd ((rd a0.Groups x3 Group.zero).Chunks) x5 []).map PageInfo.enc).length : Int))] #[true, true, true, true, false, false, false, false, false, false, false, false, false, false, false, false, false, false, false, false, false, false, false, false, false, false, false, false, false, false, false, false, false, false, false, false] (by kernel_rfl) (by kernel_rfl) ?_
  refine atod 53 (i64 (((rd ((rd a0.Groups x3 Group.zero).Chunks) x5 []).map PageInfo.enc).length : Int)) (i64 ((rd ((rd a0.Groups x3 Group.zero).Chunks) x5 []).length : Int)) (by kernel_rfl) (by rw [List.length_map]) ?_
  refine aseg 30 [4, 5] [1, 3, 5, 6, 7, 8, 9, 10, 55] [(55, bo ((v5.length : Int) != ((rd ((rd a0.Groups x3 Group.zero).Chunks) x5 []).length : Int)))] #[true, true, true, true, true, true, false, false, false, false, false, false, false, false, false, false, false, false, false, false, false, false, false, false, false, false, false, false, false, false, false, false, false, false, false, false] (by kernel_rfl) (by kernel_rfl) ?_
  refine acased 55 ((v5.length : Int) != ((rd ((rd a0.Groups x3 Group.zero).Chunks) x5 []).length : Int)) (by kernel_rfl) (fun hc11 => ?_) (fun hc11 => ?_)
  · rw [if_t hc11] at h
    refine aseg 0 [6, 7, 8, 9, 10, 11, 12, 13, 14, 15, 16, 17, 18, 19, 20, 21, 22, 23, 24, 25, 26, 27, 28, 29, 30, 31, 32, 33, 34, 35] [1, 3, 5, 6, 7, 8, 9, 10, 85] [(85, bo true)] #[true, true, true, true, true, true, true, true, true, true, true, true, true, true, true, true, true, true, true, true, true, true, true, true, true, true, true, true, true, true, true, true, true, true, true, true] (by kernel_rfl) (by kernel_rfl) ?_
    refine AAny_end (.inr trivial) (by kernel_rfl) ?_
    refine athen_n ?_
    refine AT_cond_t (by kernel_rfl) ?_
    refine zsr ?_
    refine seg 1 [2] [(2, bo false)] [] (by kernel_rfl) (by kernel_rfl) ?_
    refine zn ?_
    refine AT_ret ?_
    refine athen_r ?_
    refine ablock_r ?_
    refine athen_r ?_
    refine athen_r ?_
    refine ablock_r ?_
    refine athen_r ?_
    refine ablock_r ?_
    refine athen_r ?_
    refine athen_r ?_
    refine ablock_r ?_
    refine athen_r ?_
    have e_ := Option.some.inj h
    subst e_
    exact ⟨[bo false], _, S_, (.of (by kernel_rfl)), D.le.refl _, Store.le.refl _, rfl, (hh.sub [] (by decide) (by kernel_rfl))⟩
  rw [if_f hc11] at h
  refine aseg 28 [6, 7] [1, 3, 5, 6, 7, 8, 9, 10, 55, 57] [(57, i64 (((rd ((rd a0.Groups x3 Group.zero).Chunks) x5 []).map PageInfo.enc).length : Int))] #[true, true, true, true, true, true, true, true, false, false, false, false, false, false, false, false, false, false, false, false, false, false, false, false, false, false, false, false, false, false, false, false, false, false, false, false] (by kernel_rfl) (by kernel_rfl) ?_
  refine atod 57 (i64 (((rd ((rd a0.Groups x3 Group.zero).Chunks) x5 []).map PageInfo.enc).length : Int)) (i64 ((rd ((rd a0.Groups x3 Group.zero).Chunks) x5 []).length : Int)) (by kernel_rfl) (by rw [List.length_map]) ?_
  refine aseg 25 [8, 9, 10] [1, 3, 5, 6, 7, 8, 9, 10, 60] [(60, bo (((rd ((rd a0.Groups x3 Group.zero).Chunks) x5 []).length : Int) == 0))] #[true, true, true, true, true, true, true, true, true, true, true, false, false, false, false, false, false, false, false, false, false, false, false, false, false, false, false, false, false, false, false, false, false, false, false, false] (by kernel_rfl) (by kernel_rfl) ?_
  refine acased 60 (((rd ((rd a0.Groups x3 Group.zero).Chunks) x5 []).length : Int) == 0) (by kernel_rfl) (fun hc12 => ?_) (fun hc12 => ?_)
  · rw [if_t hc12] at h
    refine aseg 0 [11, 12, 13, 14, 15, 16, 17, 18, 19, 20, 21, 22, 23, 24, 25, 26, 27, 28, 29, 30, 31, 32, 33, 34, 35] [1, 3, 5, 6, 7, 8, 9, 10, 85] [(85, bo true)] #[true, true, true, true, true, true, true, true, true, true, true, true, true, true, true, true, true, true, true, true, true, true, true, true, true, true, true, true, true, true, true, true, true, true, true, true] (by kernel_rfl) (by kernel_rfl) ?_
    refine AAny_end (.inr trivial) (by kernel_rfl) ?_
    refine athen_n ?_
    refine AT_cond_t (by kernel_rfl) ?_
    refine zsr ?_
    refine seg 1 [2] [(2, bo false)] [] (by kernel_rfl) (by kernel_rfl) ?_
    refine zn ?_
    refine AT_ret ?_
    refine athen_r ?_
    refine ablock_r ?_
    refine athen_r ?_
    refine athen_r ?_
    refine ablock_r ?_
    refine athen_r ?_
    refine ablock_r ?_
    refine athen_r ?_
    refine athen_r ?_
    refine ablock_r ?_
    refine athen_r ?_
    have e_ := Option.some.inj h
    subst e_
    exact ⟨[bo false], _, S_, (.of (by kernel_rfl)), D.le.refl _, Store.le.refl _, rfl, (hh.sub [] (by decide) (by kernel_rfl))⟩
  rw [if_f hc12] at h
  obtain ⟨hi15, h⟩ := is h
  refine asegc 23 [11, 12] [1, 3, 5, 6, 7, 8, 9, 10, 60, 62] [(62, .pt ((v5.map Span.enc).getD (0 : Int).toNat []))] (0 ≤ (0 : Int) ∧ (0 : Int) < ((v5.map Span.enc).length : Int)) #[true, true, true, true, true, true, true, true, true, true, true, true, true, false, false, false, false, false, false, false, false, false, false, false, false, false, false, false, false, false, false, false, false, false, false, false] (by kernel_rfl) (idx_ok hi15) (by kernel_rfl) ?_
  refine atod 62 (.pt ((v5.map Span.enc).getD (0 : Int).toNat [])) (.pt (Span.enc (rd v5 0 Span.zero))) (by kernel_rfl) (by rw [pt_rd Span.enc v5 0 Span.zero hi15.1 hi15.2]) ?_
  refine aseg 17 [13, 14, 15, 16, 17, 18] [1, 3, 5, 6, 7, 8, 9, 10, 68] [(68, bo (((rd v5 0 Span.zero).From) != x2))] #[true, true, true, true, true, true, true, true, true, true, true, true, true, true, true, true, true, true, true, false, false, false, false, false, false, false, false, false, false, false, false, false, false, false, false, false] (by kernel_rfl) (by kernel_rfl) ?_
  refine acased 68 (((rd v5 0 Span.zero).From) != x2) (by kernel_rfl) (fun hc13 => ?_) (fun hc13 => ?_)
  · rw [if_t hc13] at h
    refine aseg 0 [19, 20, 21, 22, 23, 24, 25, 26, 27, 28, 29, 30, 31, 32, 33, 34, 35] [1, 3, 5, 6, 7, 8, 9, 10, 85] [(85, bo true)] #[true, true, true, true, true, true, true, true, true, true, true, true, true, true, true, true, true, true, true, true, true, true, true, true, true, true, true, true, true, true, true, true, true, true, true, true] (by kernel_rfl) (by kernel_rfl) ?_
    refine AAny_end (.inr trivial) (by kernel_rfl) ?_
    refine athen_n ?_
    refine AT_cond_t (by kernel_rfl) ?_
    refine zsr ?_
    refine AOps_seg 1 0x4 (mkS 174 [(2, bo false)]) none [] (by kernel_rfl) (by kernel_rfl) trivial ?_
    refine zn ?_
    refine AT_ret ?_
    refine athen_r ?_
    refine ablock_r ?_
    refine athen_r ?_
    refine athen_r ?_
    refine ablock_r ?_
    refine athen_r ?_
    refine ablock_r ?_
    refine athen_r ?_
    refine athen_r ?_
    refine ablock_r ?_
    refine athen_r ?_
    have e_ := Option.some.inj h
    subst e_
    exact ⟨[bo false], _, S_, (.of (by kernel_rfl)), D.le.refl _, Store.le.refl _, rfl, (hh.sub [] (by decide) (by kernel_rfl))⟩
  rw [if_f hc13] at h
  refine aseg 14 [19, 20, 21] [1, 3, 5, 6, 7, 8, 9, 10, 68, 69, 71] [(69, .sl 2 (v5.map Span.enc) (some t1)), (71, i64 ((v5.map Span.enc).length : Int))] #[true, true, true, true, true, true, true, true, true, true, true, true, true, true, true, true, true, true, true, true, true, true, false, false, false, false, false, false, false, false, false, false, false, false, false, false] (by kernel_rfl) (by kernel_rfl) ?_
  refine atod 71 (i64 ((v5.map Span.enc).length : Int)) (i64 (v5.length : Int)) (by kernel_rfl) (by rw [List.length_map]) ?_
  obtain ⟨hi17, h⟩ := is h
  refine AAny_seg 12 [22, 23] 0x3ffe1000000000000007ea (mkS 174 [(1, .pt (Footer.enc a0)), (3, bo v1), (5, i64 x4), (6, i64 x2), (7, i64 x3), (8, i64 x5), (9, .sl 14 ((rd ((rd a0.Groups x3 Group.zero).Chunks) x5 []).map PageInfo.enc) none), (10, .sl 2 (v5.map Span.enc) (some t1)), (68, bo false), (73, .pt ((v5.map Span.enc).getD (IntKind.wrap .i64 ((v5.length : Int) - 1) : Int).toNat []))]) (some (0 ≤ (IntKind.wrap .i64 ((v5.length : Int) - 1)) ∧ (IntKind.wrap .i64 ((v5.length : Int) - 1)) < ((v5.map Span.enc).length : Int))) #[true, true, true, true, true, true, true, true, true, true, true, true, true, true, true, true, true, true, true, true, true, true, true, true, false, false, false, false, false, false, false, false, false, false, false, false] (by kernel_rfl) (idx_ok hi17) (by kernel_rfl) ?_
  refine atod 73 (.pt ((v5.map Span.enc).getD (IntKind.wrap .i64 ((v5.length : Int) - 1) : Int).toNat [])) (.pt (Span.enc (rd v5 (IntKind.wrap .i64 ((v5.length : Int) - 1)) Span.zero))) (by kernel_rfl) (by rw [pt_rd Span.enc v5 (IntKind.wrap .i64 ((v5.length : Int) - 1)) Span.zero hi17.1 hi17.2]) ?_
  obtain ⟨hi18, h⟩ := is h
  refine asegc 5 [24, 25, 26, 27, 28, 29, 30] [1, 3, 5, 6, 7, 8, 9, 10, 68, 75, 76, 80] [(75, i64 ((rd v5 (IntKind.wrap .i64 ((v5.length : Int) - 1)) Span.zero).To)), (76, i64 x2), (80, .pt ((a0.Groups.map Group.enc).getD (x3 : Int).toNat []))] (0 ≤ x3 ∧ x3 < ((a0.Groups.map Group.enc).length : Int)) #[true, true, true, true, true, true, true, true, true, true, true, true, true, true, true, true, true, true, true, true, true, true, true, true, true, true, true, true, true, true, true, false, false, false, false, false] (by kernel_rfl) (idx_ok hi18) (by kernel_rfl) ?_
  refine atod 80 (.pt ((a0.Groups.map Group.enc).getD (x3 : Int).toNat [])) (.pt (Group.enc (rd a0.Groups x3 Group.zero))) (by kernel_rfl) (by rw [pt_rd Group.enc a0.Groups x3 Group.zero hi18.1 hi18.2]) ?_
  refine aseg 1 [31, 32, 33, 34] [1, 3, 5, 6, 7, 8, 9, 10, 68, 84] [(84, bo (((rd v5 (IntKind.wrap .i64 ((v5.length : Int) - 1)) Span.zero).To) != (IntKind.wrap .i64 (x2 + ((rd a0.Groups x3 Group.zero).Rows)))))] #[true, true, true, true, true, true, true, true, true, true, true, true, true, true, true, true, true, true, true, true, true, true, true, true, true, true, true, true, true, true, true, true, true, true, true, false] (by kernel_rfl) (by kernel_rfl) ?_
  refine aseg 0 [35] [1, 3, 5, 6, 7, 8, 9, 10, 85] [(85, bo (((rd v5 (IntKind.wrap .i64 ((v5.length : Int) - 1)) Span.zero).To) != (IntKind.wrap .i64 (x2 + ((rd a0.Groups x3 Group.zero).Rows)))))] #[true, true, true, true, true, true, true, true, true, true, true, true, true, true, true, true, true, true, true, true, true, true, true, true, true, true, true, true, true, true, true, true, true, true, true, true] (by kernel_rfl) (by kernel_rfl) ?_
  refine AAny_end (.inr trivial) (by kernel_rfl) ?_
  refine athen_n ?_
  refine AT_condS (((rd v5 (IntKind.wrap .i64 ((v5.length : Int) - 1)) Span.zero).To) != (IntKind.wrap .i64 (x2 + ((rd a0.Groups x3 Group.zero).Rows)))) (by kernel_rfl) (fun hc14 => ?_) (fun hc14 => ?_)
  · rw [if_t hc14] at h
    refine zsr ?_
    refine seg 1 [2] [(2, bo false)] [] (by kernel_rfl) (by kernel_rfl) ?_
    refine zn ?_
    refine AT_ret ?_
    refine athen_r ?_
    refine ablock_r ?_
    refine athen_r ?_
    refine athen_r ?_
    refine ablock_r ?_
    refine athen_r ?_
    refine ablock_r ?_
    refine athen_r ?_
    refine athen_r ?_
    refine ablock_r ?_
    refine athen_r ?_
    have e_ := Option.some.inj h
    subst e_
    exact ⟨[bo false], _, S_, (.of (by kernel_rfl)), D.le.refl _, Store.le.refl _, rfl, (hh.sub [] (by decide) (by kernel_rfl))⟩
  rw [if_f hc14] at h
  refine zkn ?_
  refine AT_seq ?_
  refine zsr ?_
  refine seg 1 [1, 3, 5, 6, 7, 8, 9, 10, 11] [(11, i64 0)] [] (by kernel_rfl) (by kernel_rfl) ?_
  refine zn ?_
  refine AT_block ?_
  refine AT_loopM 0xfea (fun k_ sl_ S_ => k_ ≤ k2 ∧ ∃ (x6 : Int), ∃ (x7 : Int), ∃ (tk1 : Nat), LeL sl_ (mkS 174 [(1, .pt (Footer.enc a0)), (3, bo v1), (5, i64 x6), (6, i64 x2), (7, i64 x3), (8, i64 x5), (9, .sl 14 ((rd ((rd a0.Groups x3 Group.zero).Chunks) x5 []).map PageInfo.enc) none), (10, .sl 2 (v5.map Span.enc) (some tk1)), (11, i64 x7)]) ∧ law19_FooterStands.l2 k_ a0 v1 x2 x3 x5 v5 x6 x7 = some r ∧ Own S [] S_ [.t tk1 (v5).length 2]) k2 ⟨Nat.le_refl _, x4, 0, t1, (le_rf (by kernel_rfl)), h, hh⟩ ?_
  clear hh h
  rintro k' sl_ S_ ⟨hk_, x6, x7, tk1, hl_, h, hh⟩
  refine AT_weaken hl_ ?_
  obtain _ | k3 := k'
  · cases h
  rw [law19_FooterStands.l2] at h
  refine AT_seq ?_
  refine zsr ?_
  refine seg 3 [1, 3, 5, 6, 7, 8, 9, 10, 11, 86, 88] [(86, i64 x7), (88, i64 (((rd ((rd a0.Groups x3 Group.zero).Chunks) x5 []).map PageInfo.enc).length : Int))] [3] (by kernel_rfl) (by kernel_rfl) ?_
  refine tod 88 (i64 (((rd ((rd a0.Groups x3 Group.zero).Chunks) x5 []).map PageInfo.enc).length : Int)) (i64 ((rd ((rd a0.Groups x3 Group.zero).Chunks) x5 []).length : Int)) (by kernel_rfl) (by rw [List.length_map]) ?_
  refine seg 1 [1, 3, 5, 6, 7, 8, 9, 10, 11, 89] [(89, bo (decide (x7 < ((rd ((rd a0.Groups x3 Group.zero).Chunks) x5 []).length : Int))))] [] (by kernel_rfl) (by kernel_rfl) ?_
  refine zn ?_
  refine AT_condR (decide (x7 < ((rd ((rd a0.Groups x3 Group.zero).Chunks) x5 []).length : Int))) (by kernel_rfl) (fun hc15 => ?_) (fun hc15 => ?_)
  · rw [if_f hc15] at h
    refine AT_exit ?_
    refine athen_e ?_
    refine athen_e ?_
    refine ablock_h ?_
    refine athen_n ?_
    refine zsr ?_
    refine seg 5 [1, 3, 5, 6, 7, 8, 143, 144, 145, 147] [(143, .ag (Footer.enc a0)), (144, i64 x3), (145, i64 x5), (147, i64 (((rd ((rd a0.Groups x3 Group.zero).Chunks) x5 []).map PageInfo.enc).length : Int))] [5, 6] (by kernel_rfl) (by kernel_rfl) ?_
    refine tod 147 (i64 (((rd ((rd a0.Groups x3 Group.zero).Chunks) x5 []).map PageInfo.enc).length : Int)) (i64 ((rd ((rd a0.Groups x3 Group.zero).Chunks) x5 []).length : Int)) (by kernel_rfl) (by rw [List.length_map]) ?_
    obtain ⟨v8, ht8, h⟩ := bs h
    refine AOps_callR _ [.ag (Footer.enc a0), i64 x3, i64 x5, i64 ((rd ((rd a0.Groups x3 Group.zero).Chunks) x5 []).length : Int)] (tl_get rfl) rfl rfl rfl rfl Try.func8 (by decide) rfl ((.cons (D.le.refl _) (.cons (D.le.refl _) (.cons (D.le.refl _) (.cons (D.le.refl _) (.nil)))))) (footer_Place.ok _ a0 x3 x5 ((rd ((rd a0.Groups x3 Group.zero).Chunks) x5 []).length : Int) _  _ ht8) ?_
    rintro _ S_ ⟨rfl, h2_⟩
    replace hh := hh.call0 h2_
    refine fg [1, 3, 5, 6, 7, 8, 148] ?_
    refine seg 1 [1, 3, 5, 6, 7, 8, 149] [(149, bo (v8 != (-1)))] [] (by kernel_rfl) (by kernel_rfl) ?_
    refine zn ?_
    refine AT_condR (v8 != (-1)) (by kernel_rfl) (fun hc24 => ?_) (fun hc24 => ?_)
    · rw [if_f hc24] at h
      refine AT_skip ?_
      refine ablock_n ?_
      refine athen_n ?_
      refine AT_region ?_
      refine seg 3 [1, 3, 5, 6, 7, 8] [(8, i64 (IntKind.wrap .i64 (x5 + 1)))] [] (by kernel_rfl) (by kernel_rfl) ?_
      refine zn ?_
      exact ⟨k3, (by omega), (by omega), x6, IntKind.wrap .i64 (x5 + 1), (le_rf (by kernel_rfl)), h, (hh.sub [] (by decide) (by kernel_rfl))⟩
    rw [if_t hc24] at h
    refine zsr ?_
    refine seg 1 [2] [(2, bo false)] [] (by kernel_rfl) (by kernel_rfl) ?_
    refine zn ?_
    refine AT_ret ?_
    refine ablock_r ?_
    refine athen_r ?_
    refine athen_r ?_
    refine ablock_r ?_
    refine athen_r ?_
    refine ablock_r ?_
    refine athen_r ?_
    refine athen_r ?_
    refine ablock_r ?_
    refine athen_r ?_
    have e_ := Option.some.inj h
    subst e_
    exact ⟨[bo false], _, S_, (.of (by kernel_rfl)), D.le.refl _, Store.le.refl _, rfl, (hh.sub [] (by decide) (by kernel_rfl))⟩
  rw [if_t hc15] at h
  refine zkn ?_
  refine AT_seq ?_
  refine AT_block ?_
  refine AT_cutM 0xfea (fun sl_ S_ => ∃ (k_ : Nat), k_ ≤ k3 ∧ ∃ (tk2 : Nat), LeL sl_ (mkS 174 [(1, .pt (Footer.enc a0)), (3, bo v1), (5, i64 x6), (6, i64 x2), (7, i64 x3), (8, i64 x5), (9, .sl 14 ((rd ((rd a0.Groups x3 Group.zero).Chunks) x5 []).map PageInfo.enc) none), (10, .sl 2 (v5.map Span.enc) (some tk2)), (11, i64 x7)]) ∧ law19_FooterStands.j3 k_ a0 v1 x2 x3 x5 v5 x6 x7 = some r ∧ Own S [] S_ [.t tk2 (v5).length 2]) ?_ ?_
  · refine AT_seq ?_
    refine AT_draw [4] 44 (fun _ => True) (by kernel_rfl) ?_
    refine aseg 44 [] [1, 3, 5, 6, 7, 8, 9, 10, 11] [] #[false, false, false, false, false, false, false, false, false, false, false, false, false, false, false, false, false, false, false, false, false, false, false, false, false, false, false, false, false, false, false, false, false, false, false, false, false, false, false, false, false, false, false, false] (by kernel_rfl) (by kernel_rfl) ?_
    refine aseg 39 [0, 1, 2, 3, 5] [1, 3, 5, 6, 7, 8, 9, 10, 11, 92, 93, 94, 95, 97] [(92, .ag (Footer.enc a0)), (93, i64 x3), (94, i64 x5), (95, i64 x7), (97, i64 x6)] #[true, true, true, true, false, true, false, false, false, false, false, false, false, false, false, false, false, false, false, false, false, false, false, false, false, false, false, false, false, false, false, false, false, false, false, false, false, false, false, false, false, false, false, false] (by kernel_rfl) (by kernel_rfl) ?_
    refine AAny_eff (fuel := 38) 4 (.inr trivial) (tl_get rfl) (by kernel_rfl) (by kernel_rfl) (by kernel_rfl) ?_
    obtain ⟨v7, ht7, h⟩ := bs h
    refine AOps_callR _ [.ag (Footer.enc a0), i64 x3, i64 x5, i64 x7] (tl_get rfl) rfl rfl rfl rfl Try.func8 (by decide) rfl ((.cons (D.le.refl _) (.cons (D.le.refl _) (.cons (D.le.refl _) (.cons (D.le.refl _) (.nil)))))) (footer_Place.ok _ a0 x3 x5 x7 _  _ ht7) ?_
    rintro _ S_ ⟨rfl, h2_⟩
    replace hh := hh.call0 h2_
    refine AOps_end ⟨rfl, _, rfl, ?_⟩; refine afg [1, 3, 5, 6, 7, 8, 9, 10, 11, 96, 97] #[true, true, true, true, true, true, false, false, false, false, false, false, false, false, false, false, false, false, false, false, false, false, false, false, false, false, false, false, false, false, false, false, false, false, false, false, false, false, false, false, false, false, false, false] (by kernel_rfl) ?_
    refine aseg 36 [6, 7] [1, 3, 5, 6, 7, 8, 9, 10, 11, 99] [(99, bo (v7 != x6))] #[true, true, true, true, true, true, true, true, false, false, false, false, false, false, false, false, false, false, false, false, false, false, false, false, false, false, false, false, false, false, false, false, false, false, false, false, false, false, false, false, false, false, false, false] (by kernel_rfl) (by kernel_rfl) ?_
    refine acased 99 (v7 != x6) (by kernel_rfl) (fun hc20 => ?_) (fun hc20 => ?_)
    · rw [if_t hc20] at h
      refine aseg 0 [8, 9, 10, 11, 12, 13, 14, 15, 16, 17, 18, 19, 20, 21, 22, 23, 24, 25, 26, 27, 28, 29, 30, 31, 32, 33, 34, 35, 36, 37, 38, 39, 40, 41, 42, 43] [1, 3, 5, 6, 7, 8, 9, 10, 11, 135] [(135, bo true)] #[true, true, true, true, true, true, true, true, true, true, true, true, true, true, true, true, true, true, true, true, true, true, true, true, true, true, true, true, true, true, true, true, true, true, true, true, true, true, true, true, true, true, true, true] (by kernel_rfl) (by kernel_rfl) ?_
      refine AAny_end (.inr trivial) (by kernel_rfl) ?_
      refine athen_n ?_
      refine AT_cond_t (by kernel_rfl) ?_
      refine zsr ?_
      refine seg 1 [2] [(2, bo false)] [] (by kernel_rfl) (by kernel_rfl) ?_
      refine zn ?_
      refine AT_ret ?_
      refine athen_r ?_
      refine ablock_r ?_
      refine athen_r ?_
      refine athen_r ?_
      refine ablock_r ?_
      refine athen_r ?_
      refine ablock_r ?_
      refine athen_r ?_
      refine athen_r ?_
      refine ablock_r ?_
      refine athen_r ?_
      refine ablock_r ?_
      refine athen_r ?_
      refine athen_r ?_
      refine ablock_r ?_
      refine athen_r ?_
      have e_ := Option.some.inj h
      subst e_
      exact ⟨[bo false], _, S_, (.of (by kernel_rfl)), D.le.refl _, Store.le.refl _, rfl, (hh.sub [] (by decide) (by kernel_rfl))⟩
    rw [if_f hc20] at h
    obtain ⟨hi25, h⟩ := is h
    refine asegc 33 [8, 9, 10] [1, 3, 5, 6, 7, 8, 9, 10, 11, 99, 102] [(102, .pt ((v5.map Span.enc).getD (x7 : Int).toNat []))] (0 ≤ x7 ∧ x7 < ((v5.map Span.enc).length : Int)) #[true, true, true, true, true, true, true, true, true, true, true, false, false, false, false, false, false, false, false, false, false, false, false, false, false, false, false, false, false, false, false, false, false, false, false, false, false, false, false, false, false, false, false, false] (by kernel_rfl) (idx_ok hi25) (by kernel_rfl) ?_
    refine atod 102 (.pt ((v5.map Span.enc).getD (x7 : Int).toNat [])) (.pt (Span.enc (rd v5 x7 Span.zero))) (by kernel_rfl) (by rw [pt_rd Span.enc v5 x7 Span.zero hi25.1 hi25.2]) ?_
    obtain ⟨hi26, h⟩ := is h
    refine asegc 28 [11, 12, 13, 14, 15] [1, 3, 5, 6, 7, 8, 9, 10, 11, 99, 104, 107] [(104, i64 ((rd v5 x7 Span.zero).To)), (107, .pt ((v5.map Span.enc).getD (x7 : Int).toNat []))] (0 ≤ x7 ∧ x7 < ((v5.map Span.enc).length : Int)) #[true, true, true, true, true, true, true, true, true, true, true, true, true, true, true, true, false, false, false, false, false, false, false, false, false, false, false, false, false, false, false, false, false, false, false, false, false, false, false, false, false, false, false, false] (by kernel_rfl) (idx_ok hi26) (by kernel_rfl) ?_
    refine atod 107 (.pt ((v5.map Span.enc).getD (x7 : Int).toNat [])) (.pt (Span.enc (rd v5 x7 Span.zero))) (by kernel_rfl) (by rw [pt_rd Span.enc v5 x7 Span.zero hi26.1 hi26.2]) ?_
    obtain ⟨hi27, h⟩ := is h
    refine AAny_seg 22 [16, 17, 18, 19, 20, 21] 0xfffffe4008000000000000000000000fea (mkS 174 [(1, .pt (Footer.enc a0)), (3, bo v1), (5, i64 x6), (6, i64 x2), (7, i64 x3), (8, i64 x5), (9, .sl 14 ((rd ((rd a0.Groups x3 Group.zero).Chunks) x5 []).map PageInfo.enc) none), (10, .sl 2 (v5.map Span.enc) (some tk1)), (11, i64 x7), (99, bo false), (110, i64 (IntKind.wrap .i64 (((rd v5 x7 Span.zero).To) - ((rd v5 x7 Span.zero).From)))), (113, .pt (((rd ((rd a0.Groups x3 Group.zero).Chunks) x5 []).map PageInfo.enc).getD (x7 : Int).toNat []))]) (some (0 ≤ x7 ∧ x7 < (((rd ((rd a0.Groups x3 Group.zero).Chunks) x5 []).map PageInfo.enc).length : Int))) #[true, true, true, true, true, true, true, true, true, true, true, true, true, true, true, true, true, true, true, true, true, true, false, false, false, false, false, false, false, false, false, false, false, false, false, false, false, false, false, false, false, false, false, false] (by kernel_rfl) (idx_ok hi27) (by kernel_rfl) ?_
    refine atod 113 (.pt (((rd ((rd a0.Groups x3 Group.zero).Chunks) x5 []).map PageInfo.enc).getD (x7 : Int).toNat [])) (.pt (PageInfo.enc (rd (rd ((rd a0.Groups x3 Group.zero).Chunks) x5 []) x7 PageInfo.zero))) (by kernel_rfl) (by rw [pt_rd PageInfo.enc (rd ((rd a0.Groups x3 Group.zero).Chunks) x5 []) x7 PageInfo.zero hi27.1 hi27.2]) ?_
    refine aseg 17 [22, 23, 24, 25, 26] [1, 3, 5, 6, 7, 8, 9, 10, 11, 118] [(118, bo ((IntKind.wrap .i64 (((rd v5 x7 Span.zero).To) - ((rd v5 x7 Span.zero).From))) != ((rd (rd ((rd a0.Groups x3 Group.zero).Chunks) x5 []) x7 PageInfo.zero).Rows)))] #[true, true, true, true, true, true, true, true, true, true, true, true, true, true, true, true, true, true, true, true, true, true, true, true, true, true, true, false, false, false, false, false, false, false, false, false, false, false, false, false, false, false, false, false] (by kernel_rfl) (by kernel_rfl) ?_
    refine acased 118 ((IntKind.wrap .i64 (((rd v5 x7 Span.zero).To) - ((rd v5 x7 Span.zero).From))) != ((rd (rd ((rd a0.Groups x3 Group.zero).Chunks) x5 []) x7 PageInfo.zero).Rows)) (by kernel_rfl) (fun hc21 => ?_) (fun hc21 => ?_)
    · rw [if_t hc21] at h
      refine aseg 0 [27, 28, 29, 30, 31, 32, 33, 34, 35, 36, 37, 38, 39, 40, 41, 42, 43] [1, 3, 5, 6, 7, 8, 9, 10, 11, 135] [(135, bo true)] #[true, true, true, true, true, true, true, true, true, true, true, true, true, true, true, true, true, true, true, true, true, true, true, true, true, true, true, true, true, true, true, true, true, true, true, true, true, true, true, true, true, true, true, true] (by kernel_rfl) (by kernel_rfl) ?_
      refine AAny_end (.inr trivial) (by kernel_rfl) ?_
      refine athen_n ?_
      refine AT_cond_t (by kernel_rfl) ?_
      refine zsr ?_
      refine seg 1 [2] [(2, bo false)] [] (by kernel_rfl) (by kernel_rfl) ?_
      refine zn ?_
      refine AT_ret ?_
      refine athen_r ?_
      refine ablock_r ?_
      refine athen_r ?_
      refine athen_r ?_
      refine ablock_r ?_
      refine athen_r ?_
      refine ablock_r ?_
      refine athen_r ?_
      refine athen_r ?_
      refine ablock_r ?_
      refine athen_r ?_
      refine ablock_r ?_
      refine athen_r ?_
      refine athen_r ?_
      refine ablock_r ?_
      refine athen_r ?_
      have e_ := Option.some.inj h
      subst e_
      exact ⟨[bo false], _, S_, (.of (by kernel_rfl)), D.le.refl _, Store.le.refl _, rfl, (hh.sub [] (by decide) (by kernel_rfl))⟩
    rw [if_f hc21] at h
    refine aseg 14 [27, 28, 29] [1, 3, 5, 6, 7, 8, 9, 10, 11, 118, 121] [(121, bo (decide (x7 > 0)))] #[true, true, true, true, true, true, true, true, true, true, true, true, true, true, true, true, true, true, true, true, true, true, true, true, true, true, true, true, true, true, false, false, false, false, false, false, false, false, false, false, false, false, false, false] (by kernel_rfl) (by kernel_rfl) ?_
    refine acasedR 121 (decide (x7 > 0)) (by kernel_rfl) (fun hc22 => ?_) (fun hc22 => ?_)
    · rw [if_f hc22] at h
      refine aseg 0 [30, 31, 32, 33, 34, 35, 36, 37, 38, 39, 40, 41, 42, 43] [1, 3, 5, 6, 7, 8, 9, 10, 11, 135] [(135, bo false)] #[true, true, true, true, true, true, true, true, true, true, true, true, true, true, true, true, true, true, true, true, true, true, true, true, true, true, true, true, true, true, true, true, true, true, true, true, true, true, true, true, true, true, true, true] (by kernel_rfl) (by kernel_rfl) ?_
      refine AAny_end (.inr trivial) (by kernel_rfl) ?_
      refine athen_n ?_
      refine AT_cond_f (by kernel_rfl) ?_
      refine zkn ?_
      exact ⟨k3, (by omega), tk1, (le_rf (by kernel_rfl)), h, hh⟩
    rw [if_t hc22] at h
    obtain ⟨hi28, h⟩ := is h
    refine asegc 11 [30, 31, 32] [1, 3, 5, 6, 7, 8, 9, 10, 11, 118, 121, 124] [(124, .pt ((v5.map Span.enc).getD (x7 : Int).toNat []))] (0 ≤ x7 ∧ x7 < ((v5.map Span.enc).length : Int)) #[true, true, true, true, true, true, true, true, true, true, true, true, true, true, true, true, true, true, true, true, true, true, true, true, true, true, true, true, true, true, true, true, true, false, false, false, false, false, false, false, false, false, false, false] (by kernel_rfl) (idx_ok hi28) (by kernel_rfl) ?_
    refine atod 124 (.pt ((v5.map Span.enc).getD (x7 : Int).toNat [])) (.pt (Span.enc (rd v5 x7 Span.zero))) (by kernel_rfl) (by rw [pt_rd Span.enc v5 x7 Span.zero hi28.1 hi28.2]) ?_
    obtain ⟨hi29, h⟩ := is h
    refine asegc 5 [33, 34, 35, 36, 37, 38] [1, 3, 5, 6, 7, 8, 9, 10, 11, 118, 121, 126, 130] [(126, i64 ((rd v5 x7 Span.zero).From)), (130, .pt ((v5.map Span.enc).getD (IntKind.wrap .i64 (x7 - 1) : Int).toNat []))] (0 ≤ (IntKind.wrap .i64 (x7 - 1)) ∧ (IntKind.wrap .i64 (x7 - 1)) < ((v5.map Span.enc).length : Int)) #[true, true, true, true, true, true, true, true, true, true, true, true, true, true, true, true, true, true, true, true, true, true, true, true, true, true, true, true, true, true, true, true, true, true, true, true, true, true, true, false, false, false, false, false] (by kernel_rfl) (idx_ok hi29) (by kernel_rfl) ?_
    refine atod 130 (.pt ((v5.map Span.enc).getD (IntKind.wrap .i64 (x7 - 1) : Int).toNat [])) (.pt (Span.enc (rd v5 (IntKind.wrap .i64 (x7 - 1)) Span.zero))) (by kernel_rfl) (by rw [pt_rd Span.enc v5 (IntKind.wrap .i64 (x7 - 1)) Span.zero hi29.1 hi29.2]) ?_
    refine aseg 0 [39, 40, 41, 42, 43] [1, 3, 5, 6, 7, 8, 9, 10, 11, 135] [(135, bo (((rd v5 x7 Span.zero).From) != ((rd v5 (IntKind.wrap .i64 (x7 - 1)) Span.zero).To)))] #[true, true, true, true, true, true, true, true, true, true, true, true, true, true, true, true, true, true, true, true, true, true, true, true, true, true, true, true, true, true, true, true, true, true, true, true, true, true, true, true, true, true, true, true] (by kernel_rfl) (by kernel_rfl) ?_
    refine AAny_end (.inr trivial) (by kernel_rfl) ?_
    refine athen_n ?_
    refine AT_condR (((rd v5 x7 Span.zero).From) != ((rd v5 (IntKind.wrap .i64 (x7 - 1)) Span.zero).To)) (by kernel_rfl) (fun hc23 => ?_) (fun hc23 => ?_)
    · rw [if_f hc23] at h
      refine zkn ?_
      exact ⟨k3, (by omega), tk1, (le_rf (by kernel_rfl)), h, hh⟩
    rw [if_t hc23] at h
    refine zsr ?_
    refine seg 1 [2] [(2, bo false)] [] (by kernel_rfl) (by kernel_rfl) ?_
    refine zn ?_
    refine AT_ret ?_
    refine athen_r ?_
    refine ablock_r ?_
    refine athen_r ?_
    refine athen_r ?_
    refine ablock_r ?_
    refine athen_r ?_
    refine ablock_r ?_
    refine athen_r ?_
    refine athen_r ?_
    refine ablock_r ?_
    refine athen_r ?_
    refine ablock_r ?_
    refine athen_r ?_
    refine athen_r ?_
    refine ablock_r ?_
    refine athen_r ?_
    have e_ := Option.some.inj h
    subst e_
    exact ⟨[bo false], _, S_, (.of (by kernel_rfl)), D.le.refl _, Store.le.refl _, rfl, (hh.sub [] (by decide) (by kernel_rfl))⟩
  clear h hh
  rintro sl_ S_ ⟨k', hk_, tk2, hl_, h, hh⟩
  refine AT_weaken hl_ ?_
  obtain _ | k4 := k'
  · cases h
  rw [law19_FooterStands.j3] at h
  refine AT_region ?_
  obtain ⟨hi30, h⟩ := is h
  refine segc 4 [1, 3, 6, 7, 8, 9, 10, 11, 136, 139] [(136, i64 x6), (139, .pt (((rd ((rd a0.Groups x3 Group.zero).Chunks) x5 []).map PageInfo.enc).getD (x7 : Int).toNat []))] (0 ≤ x7 ∧ x7 < (((rd ((rd a0.Groups x3 Group.zero).Chunks) x5 []).map PageInfo.enc).length : Int)) [4, 5, 6, 7] (by kernel_rfl) (by kernel_rfl) (idx_ok hi30) ?_
  refine tod 139 (.pt (((rd ((rd a0.Groups x3 Group.zero).Chunks) x5 []).map PageInfo.enc).getD (x7 : Int).toNat [])) (.pt (PageInfo.enc (rd (rd ((rd a0.Groups x3 Group.zero).Chunks) x5 []) x7 PageInfo.zero))) (by kernel_rfl) (by rw [pt_rd PageInfo.enc (rd ((rd a0.Groups x3 Group.zero).Chunks) x5 []) x7 PageInfo.zero hi30.1 hi30.2]) ?_
  refine seg 4 [1, 3, 5, 6, 7, 8, 9, 10, 11] [(5, i64 (IntKind.wrap .i64 (x6 + ((rd (rd ((rd a0.Groups x3 Group.zero).Chunks) x5 []) x7 PageInfo.zero).Size))))] [] (by kernel_rfl) (by kernel_rfl) ?_
  refine AOps_end ?_
  refine ablock_n ?_
  refine athen_n ?_
  refine AT_region ?_
  refine seg 3 [1, 3, 5, 6, 7, 8, 9, 10, 11] [(11, i64 (IntKind.wrap .i64 (x7 + 1)))] [] (by kernel_rfl) (by kernel_rfl) ?_
  refine zn ?_
  exact ⟨k4, (by omega), (by omega), IntKind.wrap .i64 (x6 + ((rd (rd ((rd a0.Groups x3 Group.zero).Chunks) x5 []) x7 PageInfo.zero).Size)), IntKind.wrap .i64 (x7 + 1), tk2, (le_rf (by kernel_rfl)), h, hh⟩
end Go.Proofs.Ytfaojkajlpojlaa.Abs
