/- What functions of the program compute, each with the proof that it does (printed by wip/gen/all2.py). -/
import Derived.Test.YtfaojkajlpojlaaV13
import Derived.KernelRfl
namespace Go.Proofs.Ytfaojkajlpojlaa.Abs
open Go
set_option maxRecDepth 100000
mutual
def footer_Place.j3 : Nat → Footer → Int → Int → Int → Int → Int → Int → Int → Option (Int)
  | 0, _, _, _, _, _, _, _, _ => none
  | k + 1, a0, a1, a2, a3, x2, x4, x5, x6 => footer_Place.l2 k a0 a1 a2 a3 x2 x4 (IntKind.wrap .i64 (x5 + ((rd (rd ((rd a0.Groups x2 Group.zero).Chunks) x4 []) x6 PageInfo.zero).Size))) (IntKind.wrap .i64 (x6 + 1))
def footer_Place.l2 : Nat → Footer → Int → Int → Int → Int → Int → Int → Int → Option (Int)
  | 0, _, _, _, _, _, _, _, _ => none
  | k + 1, a0, a1, a2, a3, x2, x4, x5, x6 => if (decide (x6 < ((rd ((rd a0.Groups x2 Group.zero).Chunks) x4 []).length : Int))) = true then (if 0 ≤ x6 ∧ x6 < ((rd ((rd a0.Groups x2 Group.zero).Chunks) x4 []).length : Int) then (if (x2 == a1) = true then (if (x4 == a2) = true then (if (x6 == a3) = true then (some x5) else (footer_Place.j3 k a0 a1 a2 a3 x2 x4 x5 x6)) else (footer_Place.j3 k a0 a1 a2 a3 x2 x4 x5 x6)) else (footer_Place.j3 k a0 a1 a2 a3 x2 x4 x5 x6)) else none) else (footer_Place.l1 k a0 a1 a2 a3 x2 x5 (IntKind.wrap .i64 (x4 + 1)))
def footer_Place.l1 : Nat → Footer → Int → Int → Int → Int → Int → Int → Option (Int)
  | 0, _, _, _, _, _, _, _ => none
  | k + 1, a0, a1, a2, a3, x2, x3, x4 => if (decide (x4 < (((rd a0.Groups x2 Group.zero).Chunks).length : Int))) = true then (if 0 ≤ x4 ∧ x4 < (((rd a0.Groups x2 Group.zero).Chunks).length : Int) then (footer_Place.l2 k a0 a1 a2 a3 x2 x4 x3 0) else none) else (footer_Place.l0 k a0 a1 a2 a3 x3 (IntKind.wrap .i64 (x2 + 1)))
def footer_Place.l0 : Nat → Footer → Int → Int → Int → Int → Int → Option (Int)
  | 0, _, _, _, _, _, _ => none
  | k + 1, a0, a1, a2, a3, x1, x2 => if (decide (x2 < (a0.Groups.length : Int))) = true then (if 0 ≤ x2 ∧ x2 < (a0.Groups.length : Int) then (footer_Place.l1 k a0 a1 a2 a3 x2 x1 0) else none) else (if (a1 == (a0.Groups.length : Int)) = true then (if (a2 == 0) = true then (if (a3 == 0) = true then (some x1) else (some (-1))) else (some (-1))) else (some (-1)))
end
def footer_Place.f (k : Nat) (a0 : Footer) (a1 : Int) (a2 : Int) (a3 : Int) : Option (Int) := (footer_Right.f k a0).bind fun v1 => (if (!v1) = true then (some (-1)) else (footer_Place.l0 k a0 a1 a2 a3 0 0))
theorem footer_Place.mono_l : ∀ k, (∀ y0 y1 y2 y3 y4 y5 y6 y7, LeO (footer_Place.j3 k y0 y1 y2 y3 y4 y5 y6 y7) (footer_Place.j3 (k + 1) y0 y1 y2 y3 y4 y5 y6 y7)) ∧ (∀ y0 y1 y2 y3 y4 y5 y6 y7, LeO (footer_Place.l2 k y0 y1 y2 y3 y4 y5 y6 y7) (footer_Place.l2 (k + 1) y0 y1 y2 y3 y4 y5 y6 y7)) ∧ (∀ y0 y1 y2 y3 y4 y5 y6, LeO (footer_Place.l1 k y0 y1 y2 y3 y4 y5 y6) (footer_Place.l1 (k + 1) y0 y1 y2 y3 y4 y5 y6)) ∧ (∀ y0 y1 y2 y3 y4 y5, LeO (footer_Place.l0 k y0 y1 y2 y3 y4 y5) (footer_Place.l0 (k + 1) y0 y1 y2 y3 y4 y5))
  | 0 => ⟨fun _ _ _ _ _ _ _ _ r h => (by simp only [footer_Place.j3] at h; cases h), fun _ _ _ _ _ _ _ _ r h => (by simp only [footer_Place.l2] at h; cases h), fun _ _ _ _ _ _ _ r h => (by simp only [footer_Place.l1] at h; cases h), fun _ _ _ _ _ _ r h => (by simp only [footer_Place.l0] at h; cases h)⟩
  | k + 1 => by
    have ih := footer_Place.mono_l k
    refine ⟨?_, ?_, ?_, ?_⟩
    · intro y0 y1 y2 y3 y4 y5 y6 y7
      rw [footer_Place.j3, footer_Place.j3]
      repeat' first
        | exact LeO.refl _
        | exact LeO.none _
        | exact ih.1 _ _ _ _ _ _ _ _
        | exact ih.2.1 _ _ _ _ _ _ _ _
        | exact ih.2.2.1 _ _ _ _ _ _ _
        | exact ih.2.2.2 _ _ _ _ _ _
        | exact footer_Right.mono _ _
        | refine LeO.ite ?_ ?_
        | refine LeO.bind ?_ (fun _ => ?_)
    · intro y0 y1 y2 y3 y4 y5 y6 y7
      rw [footer_Place.l2, footer_Place.l2]
      repeat' first
        | exact LeO.refl _
        | exact LeO.none _
        | exact ih.1 _ _ _ _ _ _ _ _
        | exact ih.2.1 _ _ _ _ _ _ _ _
        | exact ih.2.2.1 _ _ _ _ _ _ _
        | exact ih.2.2.2 _ _ _ _ _ _
        | exact footer_Right.mono _ _
        | refine LeO.ite ?_ ?_
        | refine LeO.bind ?_ (fun _ => ?_)
    · intro y0 y1 y2 y3 y4 y5 y6
      rw [footer_Place.l1, footer_Place.l1]
      repeat' first
        | exact LeO.refl _
        | exact LeO.none _
        | exact ih.1 _ _ _ _ _ _ _ _
        | exact ih.2.1 _ _ _ _ _ _ _ _
        | exact ih.2.2.1 _ _ _ _ _ _ _
        | exact ih.2.2.2 _ _ _ _ _ _
        | exact footer_Right.mono _ _
        | refine LeO.ite ?_ ?_
        | refine LeO.bind ?_ (fun _ => ?_)
    · intro y0 y1 y2 y3 y4 y5
      rw [footer_Place.l0, footer_Place.l0]
      repeat' first
        | exact LeO.refl _
        | exact LeO.none _
        | exact ih.1 _ _ _ _ _ _ _ _
        | exact ih.2.1 _ _ _ _ _ _ _ _
        | exact ih.2.2.1 _ _ _ _ _ _ _
        | exact ih.2.2.2 _ _ _ _ _ _
        | exact footer_Right.mono _ _
        | refine LeO.ite ?_ ?_
        | refine LeO.bind ?_ (fun _ => ?_)
theorem footer_Place.mono (k : Nat) (a0 : Footer) (a1 : Int) (a2 : Int) (a3 : Int) : LeO (footer_Place.f k a0 a1 a2 a3) (footer_Place.f (k + 1) a0 a1 a2 a3) := by
  unfold footer_Place.f
  repeat' first
    | exact LeO.refl _
    | exact LeO.none _
    | exact (footer_Place.mono_l k).1 _ _ _ _ _ _ _ _
    | exact (footer_Place.mono_l k).2.1 _ _ _ _ _ _ _ _
    | exact (footer_Place.mono_l k).2.2.1 _ _ _ _ _ _ _
    | exact (footer_Place.mono_l k).2.2.2 _ _ _ _ _ _
    | exact footer_Right.mono _ _
    | refine LeO.ite ?_ ?_
    | refine LeO.bind ?_ (fun _ => ?_)
theorem footer_Place.ok (k : Nat) (a0 : Footer) (a1 : Int) (a2 : Int) (a3 : Int) (S : Store) (r : Int) (h : footer_Place.f k a0 a1 a2 a3 = some r) : ACalls Try.prog 8 [.ag (Footer.enc a0), i64 a1, i64 a2, i64 a3] S (fun r_ S_ => r_ = i64 r ∧ Own S [] S_ []) := by
  unfold footer_Place.f at h
  refine acalls_of Try.func8 rfl ?_
  have hh := Own.nil (S := S)
  refine AT_forget 0xf (mkS 77 [(0, .ag (Footer.enc a0)), (1, i64 a1), (2, i64 a2), (3, i64 a3)]) (by kernel_rfl) ?_
  refine zsr ?_
  refine AOps_box_im (ds := (Footer.enc a0)) (tl_get rfl) rfl rfl (by kernel_rfl) ?_
  refine fg [1, 2, 3, 4] ?_
  refine seg 1 [1, 2, 3, 4] [] [] (by kernel_rfl) (by kernel_rfl) ?_
  refine zn ?_
  refine AT_seq ?_
  refine zsr ?_
  refine seg 1 [1, 2, 3, 4, 16] [(16, .ag (Footer.enc a0))] [1, 2] (by kernel_rfl) (by kernel_rfl) ?_
  obtain ⟨v1, ht1, h⟩ := bs h
  refine AOps_callR _ [.ag (Footer.enc a0)] (tl_get rfl) rfl rfl rfl rfl Try.func12 (by decide) rfl ((.cons (D.le.refl _) (.nil))) (footer_Right.ok _ a0 _  _ ht1) ?_
  rintro _ S_ ⟨rfl, h2_⟩
  replace hh := hh.call0 h2_
  refine fg [1, 2, 3, 4, 17] ?_
  refine seg 1 [1, 2, 3, 4, 18] [(18, bo (!v1))] [] (by kernel_rfl) (by kernel_rfl) ?_
  refine zn ?_
  refine AT_condS (!v1) (by kernel_rfl) (fun hc1 => ?_) (fun hc1 => ?_)
  · rw [if_t hc1] at h
    refine zsr ?_
    refine seg 1 [8] [(8, i64 (-1))] [] (by kernel_rfl) (by kernel_rfl) ?_
    refine zn ?_
    refine AT_ret ?_
    refine athen_r ?_
    have e_ := Option.some.inj h
    subst e_
    exact ⟨[i64 (-1)], _, S_, (.of (by kernel_rfl)), D.le.refl _, Store.le.refl _, rfl, hh⟩
  rw [if_f hc1] at h
  refine zkn ?_
  refine zsr ?_
  refine seg 1 [1, 2, 3, 4, 9] [(9, i64 0)] [] (by kernel_rfl) (by kernel_rfl) ?_
  refine zn ?_
  refine AT_seq ?_
  refine zsr ?_
  refine seg 3 [1, 2, 3, 4, 9, 20, 21] [(20, .sl 2 (a0.Groups.map Group.enc) none), (21, i64 ((a0.Groups.map Group.enc).length : Int))] [3] (by kernel_rfl) (by kernel_rfl) ?_
  refine tod 21 (i64 ((a0.Groups.map Group.enc).length : Int)) (i64 (a0.Groups.length : Int)) (by kernel_rfl) (by rw [List.length_map]) ?_
  refine seg 1 [1, 2, 3, 4, 9, 20, 21, 22] [(22, i64 0)] [] (by kernel_rfl) (by kernel_rfl) ?_
  refine zn ?_
  refine AT_block ?_
  refine AT_loopM 0x70021e (fun k_ sl_ S_ => k_ ≤ k ∧ ∃ (x1 : Int), ∃ (x2 : Int), LeL sl_ (mkS 77 [(1, i64 a1), (2, i64 a2), (3, i64 a3), (4, .pt (Footer.enc a0)), (9, i64 x1), (20, .sl 2 (a0.Groups.map Group.enc) none), (21, i64 (a0.Groups.length : Int)), (22, i64 x2)]) ∧ footer_Place.l0 k_ a0 a1 a2 a3 x1 x2 = some r ∧ Own S [] S_ []) k ⟨Nat.le_refl _, 0, 0, (le_rf (by kernel_rfl)), h, hh⟩ ?_
  clear hh h
  rintro k' sl_ S_ ⟨hk_, x1, x2, hl_, h, hh⟩
  refine AT_weaken hl_ ?_
  obtain _ | k1 := k'
  · cases h
  rw [footer_Place.l0] at h
  refine zsr ?_
  refine seg 1 [1, 2, 3, 4, 9, 20, 21, 22, 23] [(23, bo (decide (x2 < (a0.Groups.length : Int))))] [] (by kernel_rfl) (by kernel_rfl) ?_
  refine zn ?_
  refine AT_seq ?_
  refine AT_condR (decide (x2 < (a0.Groups.length : Int))) (by kernel_rfl) (fun hc2 => ?_) (fun hc2 => ?_)
  · rw [if_f hc2] at h
    refine AT_exit ?_
    refine athen_e ?_
    refine athen_e ?_
    refine ablock_h ?_
    refine athen_n ?_
    refine AT_seq ?_
    refine zsr ?_
    refine seg 4 [2, 3, 9, 63, 66] [(63, i64 a1), (66, i64 ((a0.Groups.map Group.enc).length : Int))] [4, 5, 6, 7, 8, 9, 10, 11, 12] (by kernel_rfl) (by kernel_rfl) ?_
    refine tod 66 (i64 ((a0.Groups.map Group.enc).length : Int)) (i64 (a0.Groups.length : Int)) (by kernel_rfl) (by rw [List.length_map]) ?_
    refine seg 2 [2, 3, 9, 68] [(68, bo (a1 == (a0.Groups.length : Int)))] [6, 7, 8, 9, 10, 11, 12] (by kernel_rfl) (by kernel_rfl) ?_
    refine casedR 68 (a1 == (a0.Groups.length : Int)) (by kernel_rfl) (fun hc11 => ?_) (fun hc11 => ?_)
    · rw [if_f hc11] at h
      refine seg 7 [9, 75] [(75, bo false)] [] (by kernel_rfl) (by kernel_rfl) ?_
      refine zn ?_
      refine AT_cond_f (by kernel_rfl) ?_
      refine zkn ?_
      refine zsr ?_
      refine seg 1 [8] [(8, i64 (-1))] [] (by kernel_rfl) (by kernel_rfl) ?_
      refine zn ?_
      refine AT_ret ?_
      have e_ := Option.some.inj h
      subst e_
      exact ⟨[i64 (-1)], _, S_, (.of (by kernel_rfl)), D.le.refl _, Store.le.refl _, rfl, hh⟩
    rw [if_t hc11] at h
    refine seg 4 [3, 9, 72] [(72, bo (a2 == 0))] [10, 11, 12] (by kernel_rfl) (by kernel_rfl) ?_
    refine casedR 72 (a2 == 0) (by kernel_rfl) (fun hc12 => ?_) (fun hc12 => ?_)
    · rw [if_f hc12] at h
      refine seg 3 [9, 75] [(75, bo false)] [] (by kernel_rfl) (by kernel_rfl) ?_
      refine zn ?_
      refine AT_cond_f (by kernel_rfl) ?_
      refine zkn ?_
      refine zsr ?_
      refine seg 1 [8] [(8, i64 (-1))] [] (by kernel_rfl) (by kernel_rfl) ?_
      refine zn ?_
      refine AT_ret ?_
      have e_ := Option.some.inj h
      subst e_
      exact ⟨[i64 (-1)], _, S_, (.of (by kernel_rfl)), D.le.refl _, Store.le.refl _, rfl, hh⟩
    rw [if_t hc12] at h
    refine seg 3 [9, 75] [(75, bo (a3 == 0))] [] (by kernel_rfl) (by kernel_rfl) ?_
    refine zn ?_
    refine AT_condS (a3 == 0) (by kernel_rfl) (fun hc13 => ?_) (fun hc13 => ?_)
    · rw [if_t hc13] at h
      refine zsr ?_
      refine seg 2 [8] [(8, i64 x1)] [] (by kernel_rfl) (by kernel_rfl) ?_
      refine zn ?_
      refine AT_ret ?_
      refine athen_r ?_
      have e_ := Option.some.inj h
      subst e_
      exact ⟨[i64 x1], _, S_, (.of (by kernel_rfl)), D.le.refl _, Store.le.refl _, rfl, hh⟩
    rw [if_f hc13] at h
    refine zkn ?_
    refine zsr ?_
    refine seg 1 [8] [(8, i64 (-1))] [] (by kernel_rfl) (by kernel_rfl) ?_
    refine zn ?_
    refine AT_ret ?_
    have e_ := Option.some.inj h
    subst e_
    exact ⟨[i64 (-1)], _, S_, (.of (by kernel_rfl)), D.le.refl _, Store.le.refl _, rfl, hh⟩
  rw [if_t hc2] at h
  refine zkn ?_
  refine AT_seq ?_
  refine AT_block ?_
  refine zsr ?_
  obtain ⟨hi2, h⟩ := is h
  refine segc 2 [1, 2, 3, 4, 9, 20, 21, 22, 24, 25] [(24, i64 x2), (25, .pt ((a0.Groups.map Group.enc).getD (x2 : Int).toNat []))] (0 ≤ x2 ∧ x2 < ((a0.Groups.map Group.enc).length : Int)) [2, 3, 4, 5] (by kernel_rfl) (by kernel_rfl) (idx_ok hi2) ?_
  refine tod 25 (.pt ((a0.Groups.map Group.enc).getD (x2 : Int).toNat [])) (.pt (Group.enc (rd a0.Groups x2 Group.zero))) (by kernel_rfl) (by rw [pt_rd Group.enc a0.Groups x2 Group.zero hi2.1 hi2.2]) ?_
  refine seg 1 [1, 2, 3, 4, 9, 20, 21, 22, 24, 26] [(26, .ag (Group.enc (rd a0.Groups x2 Group.zero)))] [3, 4, 5] (by kernel_rfl) (by kernel_rfl) ?_
  refine AOps_allocV (ds := [i64 0, nilS]) (cs' := [i64 0, nilS]) (tl_get rfl) rfl rfl (by kernel_rfl) (LeL.refl _) (fun S_ m1 hf_ u_ => ?_)
  replace hh := hh.obN hf_ u_
  refine AOps_nilO (k := m1) (T := 31) (cs := [i64 0, nilS]) 1 1 (hh.ob 0 (by kernel_rfl)) rfl (fun S_ t1 hf_ h1_ h2_ h3_ => ?_)
  replace hh := hh.nilO 0 (by kernel_rfl) hf_ h1_ h2_ h3_ (L' := [.o m1 (.cells 31 [i64 0, .sl 1 [] (some t1)]), .t t1 (([] : List (List PageInfo))).length 1]) (by kernel_rfl)
  refine fg [1, 2, 3, 4, 9, 11, 20, 21, 22, 24, 26] ?_
  refine seg 1 [1, 2, 3, 4, 9, 10, 11, 20, 21, 22, 26] [(10, i64 x2)] [5] (by kernel_rfl) (by kernel_rfl) ?_
  refine AOps_putV (T := 31) (off := 0) (cs := [i64 0, .sl 1 [] (some t1)]) (ds := (Group.enc (rd a0.Groups x2 Group.zero))) (cs' := [i64 ((rd a0.Groups x2 Group.zero).Rows), .sl 1 (((rd a0.Groups x2 Group.zero).Chunks).map (eL 14 PageInfo.enc)) none]) (tl_get rfl) rfl rfl rfl (hh.ob 0 (by kernel_rfl)) rfl (by kernel_rfl) (Nat.le_of_ble_eq_true rfl) (LeL.refl _) (fun S_ u_ => ?_)
  replace hh := hh.obS' 0 (by kernel_rfl) u_
  refine fg0 [1, 2, 3, 4, 9, 10, 11, 20, 21, 22] ?_
  refine znsr ?_
  refine seg 1 [1, 2, 3, 4, 9, 10, 20, 21, 22, 27] [(27, .ob m1 1)] [1, 2, 3] (by kernel_rfl) (by kernel_rfl) ?_
  refine AOps_load (T := 31) (off := 1) (cs := [i64 ((rd a0.Groups x2 Group.zero).Rows), .sl 1 (((rd a0.Groups x2 Group.zero).Chunks).map (eL 14 PageInfo.enc)) none]) (.sl 1 (((rd a0.Groups x2 Group.zero).Chunks).map (eL 14 PageInfo.enc)) none) (tl_get rfl) rfl rfl rfl (hh.ob 0 (by kernel_rfl)) (.inr ⟨by kernel_rfl, by kernel_rfl⟩) ?_
  refine fg [1, 2, 3, 4, 9, 10, 20, 21, 22, 28] ?_
  refine AOps_seg 1 0x3070061e (mkS 77 [(1, i64 a1), (2, i64 a2), (3, i64 a3), (4, .pt (Footer.enc a0)), (9, i64 x1), (10, i64 x2), (20, .sl 2 (a0.Groups.map Group.enc) none), (21, i64 (a0.Groups.length : Int)), (22, i64 x2), (28, .sl 1 (((rd a0.Groups x2 Group.zero).Chunks).map (eL 14 PageInfo.enc)) none), (29, i64 ((((rd a0.Groups x2 Group.zero).Chunks).map (eL 14 PageInfo.enc)).length : Int))]) none [3] (by kernel_rfl) (by kernel_rfl) trivial ?_
  refine tod 29 (i64 ((((rd a0.Groups x2 Group.zero).Chunks).map (eL 14 PageInfo.enc)).length : Int)) (i64 (((rd a0.Groups x2 Group.zero).Chunks).length : Int)) (by kernel_rfl) (by rw [List.length_map]) ?_
  refine seg 1 [1, 2, 3, 4, 9, 10, 20, 21, 22, 28, 29, 30] [(30, i64 0)] [] (by kernel_rfl) (by kernel_rfl) ?_
  refine zn ?_
  refine AT_block ?_
  refine AT_loopM 0x7070061e (fun k_ sl_ S_ => k_ ≤ k1 ∧ ∃ (x3 : Int), ∃ (x4 : Int), LeL sl_ (mkS 77 [(1, i64 a1), (2, i64 a2), (3, i64 a3), (4, .pt (Footer.enc a0)), (9, i64 x3), (10, i64 x2), (20, .sl 2 (a0.Groups.map Group.enc) none), (21, i64 (a0.Groups.length : Int)), (22, i64 x2), (28, .sl 1 (((rd a0.Groups x2 Group.zero).Chunks).map (eL 14 PageInfo.enc)) none), (29, i64 (((rd a0.Groups x2 Group.zero).Chunks).length : Int)), (30, i64 x4)]) ∧ footer_Place.l1 k_ a0 a1 a2 a3 x2 x3 x4 = some r ∧ Own S [] S_ []) k1 ⟨Nat.le_refl _, x1, 0, (le_rf (by kernel_rfl)), h, (hh.sub [] (by decide) (by kernel_rfl))⟩ ?_
  clear hh h
  rintro k' sl_ S_ ⟨hk_, x3, x4, hl_, h, hh⟩
  refine AT_weaken hl_ ?_
  obtain _ | k2 := k'
  · cases h
  rw [footer_Place.l1] at h
  refine zsr ?_
  refine seg 1 [1, 2, 3, 4, 9, 10, 20, 21, 22, 28, 29, 30, 31] [(31, bo (decide (x4 < (((rd a0.Groups x2 Group.zero).Chunks).length : Int))))] [] (by kernel_rfl) (by kernel_rfl) ?_
  refine zn ?_
  refine AT_seq ?_
  refine AT_condR (decide (x4 < (((rd a0.Groups x2 Group.zero).Chunks).length : Int))) (by kernel_rfl) (fun hc3 => ?_) (fun hc3 => ?_)
  · rw [if_f hc3] at h
    refine AT_exit ?_
    refine athen_e ?_
    refine athen_e ?_
    refine ablock_h ?_
    refine ablock_n ?_
    refine athen_n ?_
    refine AT_region ?_
    refine seg 2 [1, 2, 3, 4, 9, 20, 21, 22] [(22, i64 (IntKind.wrap .i64 (x2 + 1)))] [] (by kernel_rfl) (by kernel_rfl) ?_
    refine zn ?_
    exact ⟨k2, (by omega), (by omega), x3, IntKind.wrap .i64 (x2 + 1), (le_rf (by kernel_rfl)), h, hh⟩
  rw [if_t hc3] at h
  refine zkn ?_
  refine AT_seq ?_
  refine AT_block ?_
  refine zsr ?_
  obtain ⟨hi4, h⟩ := is h
  refine segc 2 [1, 2, 3, 4, 9, 10, 20, 21, 22, 28, 29, 30, 32, 33] [(32, i64 x4), (33, .pt ((((rd a0.Groups x2 Group.zero).Chunks).map (eL 14 PageInfo.enc)).getD (x4 : Int).toNat []))] (0 ≤ x4 ∧ x4 < ((((rd a0.Groups x2 Group.zero).Chunks).map (eL 14 PageInfo.enc)).length : Int)) [2, 3, 4] (by kernel_rfl) (by kernel_rfl) (idx_ok hi4) ?_
  refine tod 33 (.pt ((((rd a0.Groups x2 Group.zero).Chunks).map (eL 14 PageInfo.enc)).getD (x4 : Int).toNat [])) (.pt [.sl 14 ((rd ((rd a0.Groups x2 Group.zero).Chunks) x4 []).map PageInfo.enc) none]) (by kernel_rfl) (by rw [pt_rd (eL 14 PageInfo.enc) ((rd a0.Groups x2 Group.zero).Chunks) x4 [] hi4.1 hi4.2]) ?_
  refine seg 3 [1, 2, 3, 4, 9, 10, 12, 13, 20, 21, 22, 28, 29, 30] [(12, i64 x4), (13, .sl 14 ((rd ((rd a0.Groups x2 Group.zero).Chunks) x4 []).map PageInfo.enc) none)] [] (by kernel_rfl) (by kernel_rfl) ?_
  refine znsr ?_
  refine seg 2 [1, 2, 3, 4, 9, 10, 12, 20, 21, 22, 28, 29, 30, 35, 36] [(35, .sl 14 ((rd ((rd a0.Groups x2 Group.zero).Chunks) x4 []).map PageInfo.enc) none), (36, i64 (((rd ((rd a0.Groups x2 Group.zero).Chunks) x4 []).map PageInfo.enc).length : Int))] [2] (by kernel_rfl) (by kernel_rfl) ?_
  refine tod 36 (i64 (((rd ((rd a0.Groups x2 Group.zero).Chunks) x4 []).map PageInfo.enc).length : Int)) (i64 ((rd ((rd a0.Groups x2 Group.zero).Chunks) x4 []).length : Int)) (by kernel_rfl) (by rw [List.length_map]) ?_
  refine seg 1 [1, 2, 3, 4, 9, 10, 12, 20, 21, 22, 28, 29, 30, 35, 36, 37] [(37, i64 0)] [] (by kernel_rfl) (by kernel_rfl) ?_
  refine zn ?_
  refine AT_block ?_
  refine AT_loopM 0x387070161e (fun k_ sl_ S_ => k_ ≤ k2 ∧ ∃ (x5 : Int), ∃ (x6 : Int), LeL sl_ (mkS 77 [(1, i64 a1), (2, i64 a2), (3, i64 a3), (4, .pt (Footer.enc a0)), (9, i64 x5), (10, i64 x2), (12, i64 x4), (20, .sl 2 (a0.Groups.map Group.enc) none), (21, i64 (a0.Groups.length : Int)), (22, i64 x2), (28, .sl 1 (((rd a0.Groups x2 Group.zero).Chunks).map (eL 14 PageInfo.enc)) none), (29, i64 (((rd a0.Groups x2 Group.zero).Chunks).length : Int)), (30, i64 x4), (35, .sl 14 ((rd ((rd a0.Groups x2 Group.zero).Chunks) x4 []).map PageInfo.enc) none), (36, i64 ((rd ((rd a0.Groups x2 Group.zero).Chunks) x4 []).length : Int)), (37, i64 x6)]) ∧ footer_Place.l2 k_ a0 a1 a2 a3 x2 x4 x5 x6 = some r ∧ Own S [] S_ []) k2 ⟨Nat.le_refl _, x3, 0, (le_rf (by kernel_rfl)), h, hh⟩ ?_
  clear hh h
  rintro k' sl_ S_ ⟨hk_, x5, x6, hl_, h, hh⟩
  refine AT_weaken hl_ ?_
  obtain _ | k3 := k'
  · cases h
  rw [footer_Place.l2] at h
  refine zsr ?_
  refine seg 1 [1, 2, 3, 4, 9, 10, 12, 20, 21, 22, 28, 29, 30, 35, 36, 37, 38] [(38, bo (decide (x6 < ((rd ((rd a0.Groups x2 Group.zero).Chunks) x4 []).length : Int))))] [] (by kernel_rfl) (by kernel_rfl) ?_
  refine zn ?_
  refine AT_seq ?_
  refine AT_condR (decide (x6 < ((rd ((rd a0.Groups x2 Group.zero).Chunks) x4 []).length : Int))) (by kernel_rfl) (fun hc4 => ?_) (fun hc4 => ?_)
  · rw [if_f hc4] at h
    refine AT_exit ?_
    refine athen_e ?_
    refine athen_e ?_
    refine ablock_h ?_
    refine ablock_n ?_
    refine athen_n ?_
    refine AT_region ?_
    refine seg 2 [1, 2, 3, 4, 9, 10, 20, 21, 22, 28, 29, 30] [(30, i64 (IntKind.wrap .i64 (x4 + 1)))] [] (by kernel_rfl) (by kernel_rfl) ?_
    refine zn ?_
    exact ⟨k3, (by omega), (by omega), x5, IntKind.wrap .i64 (x4 + 1), (le_rf (by kernel_rfl)), h, hh⟩
  rw [if_t hc4] at h
  refine zkn ?_
  refine AT_seq ?_
  refine AT_block ?_
  refine zsr ?_
  obtain ⟨hi6, h⟩ := is h
  refine segc 2 [1, 2, 3, 4, 9, 10, 12, 20, 21, 22, 28, 29, 30, 35, 36, 37, 39, 40] [(39, i64 x6), (40, .pt (((rd ((rd a0.Groups x2 Group.zero).Chunks) x4 []).map PageInfo.enc).getD (x6 : Int).toNat []))] (0 ≤ x6 ∧ x6 < (((rd ((rd a0.Groups x2 Group.zero).Chunks) x4 []).map PageInfo.enc).length : Int)) [2, 3, 4, 5] (by kernel_rfl) (by kernel_rfl) (idx_ok hi6) ?_
  refine tod 40 (.pt (((rd ((rd a0.Groups x2 Group.zero).Chunks) x4 []).map PageInfo.enc).getD (x6 : Int).toNat [])) (.pt (PageInfo.enc (rd (rd ((rd a0.Groups x2 Group.zero).Chunks) x4 []) x6 PageInfo.zero))) (by kernel_rfl) (by rw [pt_rd PageInfo.enc (rd ((rd a0.Groups x2 Group.zero).Chunks) x4 []) x6 PageInfo.zero hi6.1 hi6.2]) ?_
  refine seg 1 [1, 2, 3, 4, 9, 10, 12, 20, 21, 22, 28, 29, 30, 35, 36, 37, 39, 41] [(41, .ag (PageInfo.enc (rd (rd ((rd a0.Groups x2 Group.zero).Chunks) x4 []) x6 PageInfo.zero)))] [3, 4, 5] (by kernel_rfl) (by kernel_rfl) ?_
  refine AOps_allocV (ds := [i64 0, i64 0, i64 0, bo false, bo false, i64 0, str [], i64 0, i64 0, bo false, i64 0, str [], i64 0, i64 0]) (cs' := [i64 0, i64 0, i64 0, bo false, bo false, i64 0, str [], i64 0, i64 0, bo false, i64 0, str [], i64 0, i64 0]) (tl_get rfl) rfl rfl (by kernel_rfl) (LeL.refl _) (fun S_ m2 hf_ u_ => ?_)
  replace hh := hh.obN hf_ u_
  refine fg [1, 2, 3, 4, 9, 10, 12, 15, 20, 21, 22, 28, 29, 30, 35, 36, 37, 39, 41] ?_
  refine seg 1 [1, 2, 3, 4, 9, 10, 12, 14, 15, 20, 21, 22, 28, 29, 30, 35, 36, 37, 41] [(14, i64 x6)] [5] (by kernel_rfl) (by kernel_rfl) ?_
  refine AOps_putV (T := 44) (off := 0) (cs := [i64 0, i64 0, i64 0, bo false, bo false, i64 0, str [], i64 0, i64 0, bo false, i64 0, str [], i64 0, i64 0]) (ds := (PageInfo.enc (rd (rd ((rd a0.Groups x2 Group.zero).Chunks) x4 []) x6 PageInfo.zero))) (cs' := [i64 ((rd (rd ((rd a0.Groups x2 Group.zero).Chunks) x4 []) x6 PageInfo.zero).Size), i64 ((rd (rd ((rd a0.Groups x2 Group.zero).Chunks) x4 []) x6 PageInfo.zero).Rows), i64 (((rd (rd ((rd a0.Groups x2 Group.zero).Chunks) x4 []) x6 PageInfo.zero).Stat).Nulls), bo (((rd (rd ((rd a0.Groups x2 Group.zero).Chunks) x4 []) x6 PageInfo.zero).Stat).Has), bo ((((rd (rd ((rd a0.Groups x2 Group.zero).Chunks) x4 []) x6 PageInfo.zero).Stat).Min).Null), i64 ((((rd (rd ((rd a0.Groups x2 Group.zero).Chunks) x4 []) x6 PageInfo.zero).Stat).Min).Int), str ((((rd (rd ((rd a0.Groups x2 Group.zero).Chunks) x4 []) x6 PageInfo.zero).Stat).Min).Text), i64 (((((rd (rd ((rd a0.Groups x2 Group.zero).Chunks) x4 []) x6 PageInfo.zero).Stat).Min).At).X), i64 (((((rd (rd ((rd a0.Groups x2 Group.zero).Chunks) x4 []) x6 PageInfo.zero).Stat).Min).At).Y), bo ((((rd (rd ((rd a0.Groups x2 Group.zero).Chunks) x4 []) x6 PageInfo.zero).Stat).Max).Null), i64 ((((rd (rd ((rd a0.Groups x2 Group.zero).Chunks) x4 []) x6 PageInfo.zero).Stat).Max).Int), str ((((rd (rd ((rd a0.Groups x2 Group.zero).Chunks) x4 []) x6 PageInfo.zero).Stat).Max).Text), i64 (((((rd (rd ((rd a0.Groups x2 Group.zero).Chunks) x4 []) x6 PageInfo.zero).Stat).Max).At).X), i64 (((((rd (rd ((rd a0.Groups x2 Group.zero).Chunks) x4 []) x6 PageInfo.zero).Stat).Max).At).Y)]) (tl_get rfl) rfl rfl rfl (hh.ob 0 (by kernel_rfl)) rfl (by kernel_rfl) (Nat.le_of_ble_eq_true rfl) (LeL.refl _) (fun S_ u_ => ?_)
  replace hh := hh.obS' 0 (by kernel_rfl) u_
  refine fg0 [1, 2, 3, 4, 9, 10, 12, 14, 15, 20, 21, 22, 28, 29, 30, 35, 36, 37] ?_
  refine zn ?_
  refine AT_cutM 0x387070961e (fun sl_ S_ => ∃ (k_ : Nat), k_ ≤ k3 ∧ LeL sl_ (mkS 77 [(1, i64 a1), (2, i64 a2), (3, i64 a3), (4, .pt (Footer.enc a0)), (9, i64 x5), (10, i64 x2), (12, i64 x4), (15, .ob m2 0), (20, .sl 2 (a0.Groups.map Group.enc) none), (21, i64 (a0.Groups.length : Int)), (22, i64 x2), (28, .sl 1 (((rd a0.Groups x2 Group.zero).Chunks).map (eL 14 PageInfo.enc)) none), (29, i64 (((rd a0.Groups x2 Group.zero).Chunks).length : Int)), (30, i64 x4), (35, .sl 14 ((rd ((rd a0.Groups x2 Group.zero).Chunks) x4 []).map PageInfo.enc) none), (36, i64 ((rd ((rd a0.Groups x2 Group.zero).Chunks) x4 []).length : Int)), (37, i64 x6)]) ∧ footer_Place.j3 k_ a0 a1 a2 a3 x2 x4 x5 x6 = some r ∧ Own S [] S_ [.o m2 (.cells 44 [i64 ((rd (rd ((rd a0.Groups x2 Group.zero).Chunks) x4 []) x6 PageInfo.zero).Size), i64 ((rd (rd ((rd a0.Groups x2 Group.zero).Chunks) x4 []) x6 PageInfo.zero).Rows), i64 (((rd (rd ((rd a0.Groups x2 Group.zero).Chunks) x4 []) x6 PageInfo.zero).Stat).Nulls), bo (((rd (rd ((rd a0.Groups x2 Group.zero).Chunks) x4 []) x6 PageInfo.zero).Stat).Has), bo ((((rd (rd ((rd a0.Groups x2 Group.zero).Chunks) x4 []) x6 PageInfo.zero).Stat).Min).Null), i64 ((((rd (rd ((rd a0.Groups x2 Group.zero).Chunks) x4 []) x6 PageInfo.zero).Stat).Min).Int), str ((((rd (rd ((rd a0.Groups x2 Group.zero).Chunks) x4 []) x6 PageInfo.zero).Stat).Min).Text), i64 (((((rd (rd ((rd a0.Groups x2 Group.zero).Chunks) x4 []) x6 PageInfo.zero).Stat).Min).At).X), i64 (((((rd (rd ((rd a0.Groups x2 Group.zero).Chunks) x4 []) x6 PageInfo.zero).Stat).Min).At).Y), bo ((((rd (rd ((rd a0.Groups x2 Group.zero).Chunks) x4 []) x6 PageInfo.zero).Stat).Max).Null), i64 ((((rd (rd ((rd a0.Groups x2 Group.zero).Chunks) x4 []) x6 PageInfo.zero).Stat).Max).Int), str ((((rd (rd ((rd a0.Groups x2 Group.zero).Chunks) x4 []) x6 PageInfo.zero).Stat).Max).Text), i64 (((((rd (rd ((rd a0.Groups x2 Group.zero).Chunks) x4 []) x6 PageInfo.zero).Stat).Max).At).X), i64 (((((rd (rd ((rd a0.Groups x2 Group.zero).Chunks) x4 []) x6 PageInfo.zero).Stat).Max).At).Y)])]) ?_ ?_
  · refine AT_seq ?_
    refine AT_region ?_
    refine seg 4 [1, 2, 3, 4, 9, 10, 12, 14, 15, 20, 21, 22, 28, 29, 30, 35, 36, 37, 45] [(45, bo (x2 == a1))] [4, 5, 6, 7, 8, 9, 10, 11, 12] (by kernel_rfl) (by kernel_rfl) ?_
    refine casedR 45 (x2 == a1) (by kernel_rfl) (fun hc8 => ?_) (fun hc8 => ?_)
    · rw [if_f hc8] at h
      refine seg 9 [1, 2, 3, 4, 9, 10, 12, 15, 20, 21, 22, 28, 29, 30, 35, 36, 37, 54] [(54, bo false)] [] (by kernel_rfl) (by kernel_rfl) ?_
      refine zn ?_
      refine AT_cond_f (by kernel_rfl) ?_
      refine zkn ?_
      exact ⟨k3, (by omega), (le_rf (by kernel_rfl)), h, hh⟩
    rw [if_t hc8] at h
    refine seg 5 [1, 2, 3, 4, 9, 10, 12, 14, 15, 20, 21, 22, 28, 29, 30, 35, 36, 37, 50] [(50, bo (x4 == a2))] [9, 10, 11, 12] (by kernel_rfl) (by kernel_rfl) ?_
    refine casedR 50 (x4 == a2) (by kernel_rfl) (fun hc9 => ?_) (fun hc9 => ?_)
    · rw [if_f hc9] at h
      refine AOps_seg 4 0x4000387070961e (mkS 77 [(1, i64 a1), (2, i64 a2), (3, i64 a3), (4, .pt (Footer.enc a0)), (9, i64 x5), (10, i64 x2), (12, i64 x4), (15, .ob m2 0), (20, .sl 2 (a0.Groups.map Group.enc) none), (21, i64 (a0.Groups.length : Int)), (22, i64 x2), (28, .sl 1 (((rd a0.Groups x2 Group.zero).Chunks).map (eL 14 PageInfo.enc)) none), (29, i64 (((rd a0.Groups x2 Group.zero).Chunks).length : Int)), (30, i64 x4), (35, .sl 14 ((rd ((rd a0.Groups x2 Group.zero).Chunks) x4 []).map PageInfo.enc) none), (36, i64 ((rd ((rd a0.Groups x2 Group.zero).Chunks) x4 []).length : Int)), (37, i64 x6), (54, bo false)]) none [] (by kernel_rfl) (by kernel_rfl) trivial ?_
      refine zn ?_
      refine AT_cond_f (by kernel_rfl) ?_
      refine zkn ?_
      exact ⟨k3, (by omega), (le_rf (by kernel_rfl)), h, hh⟩
    rw [if_t hc9] at h
    refine AOps_seg 4 0x4000387070961e (mkS 77 [(1, i64 a1), (2, i64 a2), (3, i64 a3), (4, .pt (Footer.enc a0)), (9, i64 x5), (10, i64 x2), (12, i64 x4), (15, .ob m2 0), (20, .sl 2 (a0.Groups.map Group.enc) none), (21, i64 (a0.Groups.length : Int)), (22, i64 x2), (28, .sl 1 (((rd a0.Groups x2 Group.zero).Chunks).map (eL 14 PageInfo.enc)) none), (29, i64 (((rd a0.Groups x2 Group.zero).Chunks).length : Int)), (30, i64 x4), (35, .sl 14 ((rd ((rd a0.Groups x2 Group.zero).Chunks) x4 []).map PageInfo.enc) none), (36, i64 ((rd ((rd a0.Groups x2 Group.zero).Chunks) x4 []).length : Int)), (37, i64 x6), (54, bo (x6 == a3))]) none [] (by kernel_rfl) (by kernel_rfl) trivial ?_
    refine zn ?_
    refine AT_condR (x6 == a3) (by kernel_rfl) (fun hc10 => ?_) (fun hc10 => ?_)
    · rw [if_f hc10] at h
      refine zkn ?_
      exact ⟨k3, (by omega), (le_rf (by kernel_rfl)), h, hh⟩
    rw [if_t hc10] at h
    refine zsr ?_
    refine seg 2 [8] [(8, i64 x5)] [] (by kernel_rfl) (by kernel_rfl) ?_
    refine zn ?_
    refine AT_ret ?_
    refine athen_r ?_
    refine ablock_r ?_
    refine athen_r ?_
    refine athen_r ?_
    refine ablock_r ?_
    refine ablock_r ?_
    refine athen_r ?_
    refine athen_r ?_
    refine ablock_r ?_
    refine ablock_r ?_
    refine athen_r ?_
    refine athen_r ?_
    refine ablock_r ?_
    refine athen_r ?_
    have e_ := Option.some.inj h
    subst e_
    exact ⟨[i64 x5], _, S_, (.of (by kernel_rfl)), D.le.refl _, Store.le.refl _, rfl, (hh.sub [] (by decide) (by kernel_rfl))⟩
  clear h hh
  rintro sl_ S_ ⟨k', hk_, hl_, h, hh⟩
  refine AT_weaken hl_ ?_
  obtain _ | k4 := k'
  · cases h
  rw [footer_Place.j3] at h
  refine AT_region ?_
  refine seg 2 [1, 2, 3, 4, 10, 12, 20, 21, 22, 28, 29, 30, 35, 36, 37, 56, 57] [(56, i64 x5), (57, .ob m2 0)] [2, 3, 4] (by kernel_rfl) (by kernel_rfl) ?_
  refine AOps_load (T := 44) (off := 0) (cs := [i64 ((rd (rd ((rd a0.Groups x2 Group.zero).Chunks) x4 []) x6 PageInfo.zero).Size), i64 ((rd (rd ((rd a0.Groups x2 Group.zero).Chunks) x4 []) x6 PageInfo.zero).Rows), i64 (((rd (rd ((rd a0.Groups x2 Group.zero).Chunks) x4 []) x6 PageInfo.zero).Stat).Nulls), bo (((rd (rd ((rd a0.Groups x2 Group.zero).Chunks) x4 []) x6 PageInfo.zero).Stat).Has), bo ((((rd (rd ((rd a0.Groups x2 Group.zero).Chunks) x4 []) x6 PageInfo.zero).Stat).Min).Null), i64 ((((rd (rd ((rd a0.Groups x2 Group.zero).Chunks) x4 []) x6 PageInfo.zero).Stat).Min).Int), str ((((rd (rd ((rd a0.Groups x2 Group.zero).Chunks) x4 []) x6 PageInfo.zero).Stat).Min).Text), i64 (((((rd (rd ((rd a0.Groups x2 Group.zero).Chunks) x4 []) x6 PageInfo.zero).Stat).Min).At).X), i64 (((((rd (rd ((rd a0.Groups x2 Group.zero).Chunks) x4 []) x6 PageInfo.zero).Stat).Min).At).Y), bo ((((rd (rd ((rd a0.Groups x2 Group.zero).Chunks) x4 []) x6 PageInfo.zero).Stat).Max).Null), i64 ((((rd (rd ((rd a0.Groups x2 Group.zero).Chunks) x4 []) x6 PageInfo.zero).Stat).Max).Int), str ((((rd (rd ((rd a0.Groups x2 Group.zero).Chunks) x4 []) x6 PageInfo.zero).Stat).Max).Text), i64 (((((rd (rd ((rd a0.Groups x2 Group.zero).Chunks) x4 []) x6 PageInfo.zero).Stat).Max).At).X), i64 (((((rd (rd ((rd a0.Groups x2 Group.zero).Chunks) x4 []) x6 PageInfo.zero).Stat).Max).At).Y)]) (i64 ((rd (rd ((rd a0.Groups x2 Group.zero).Chunks) x4 []) x6 PageInfo.zero).Size)) (tl_get rfl) rfl rfl rfl (hh.ob 0 (by kernel_rfl)) (.inr ⟨by kernel_rfl, by kernel_rfl⟩) ?_
  refine fg [1, 2, 3, 4, 10, 12, 20, 21, 22, 28, 29, 30, 35, 36, 37, 56, 58] ?_
  refine seg 2 [1, 2, 3, 4, 9, 10, 12, 20, 21, 22, 28, 29, 30, 35, 36, 37] [(9, i64 (IntKind.wrap .i64 (x5 + ((rd (rd ((rd a0.Groups x2 Group.zero).Chunks) x4 []) x6 PageInfo.zero).Size))))] [] (by kernel_rfl) (by kernel_rfl) ?_
  refine AOps_end ?_
  refine ablock_n ?_
  refine athen_n ?_
  refine AT_region ?_
  refine seg 2 [1, 2, 3, 4, 9, 10, 12, 20, 21, 22, 28, 29, 30, 35, 36, 37] [(37, i64 (IntKind.wrap .i64 (x6 + 1)))] [] (by kernel_rfl) (by kernel_rfl) ?_
  refine zn ?_
  exact ⟨k4, (by omega), (by omega), IntKind.wrap .i64 (x5 + ((rd (rd ((rd a0.Groups x2 Group.zero).Chunks) x4 []) x6 PageInfo.zero).Size)), IntKind.wrap .i64 (x6 + 1), (le_rf (by kernel_rfl)), h, (hh.sub [] (by decide) (by kernel_rfl))⟩
end Go.Proofs.Ytfaojkajlpojlaa.Abs
