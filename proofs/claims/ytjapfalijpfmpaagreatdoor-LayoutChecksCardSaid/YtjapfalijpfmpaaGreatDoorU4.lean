/- What functions of the program compute, each with the proof that it does (printed by wip/gen/all.py). -/
import Derived.Test.YtjapfalijpfmpaaGreatDoorU3
import Derived.KernelRfl
namespace Go.Proofs.YtjapfalijpfmpaaGreatDoor.Abs
open Go
set_option maxRecDepth 100000
mutual
def law18_LayoutAll.j2 : Nat → Int → Int → Bool → (List Span) → Int → Option (Bool)
  | 0, _, _, _, _, _ => none
  | k + 1, a1, a2, v1, v6, x49 => if 0 ≤ x49 ∧ x49 < (v6.length : Int) then (law18_LayoutAll.l1 k a1 a2 v1 v6 ((rd v6 x49 Span.zero).To) (IntKind.wrap .i64 (x49 + 1))) else none
def law18_LayoutAll.l1 : Nat → Int → Int → Bool → (List Span) → Int → Int → Option (Bool)
  | 0, _, _, _, _, _, _ => none
  | k + 1, a1, a2, v1, v6, x48, x49 => if (decide (x49 < (v6.length : Int))) = true then (if 0 ≤ x49 ∧ x49 < (v6.length : Int) then (if (((rd v6 x49 Span.zero).From) != x48) = true then (some false) else (if 0 ≤ x49 ∧ x49 < (v6.length : Int) then (if (decide (((rd v6 x49 Span.zero).To) ≤ x48)) = true then (some false) else (if 0 ≤ x49 ∧ x49 < (v6.length : Int) then (if (decide ((IntKind.wrap .i64 (((rd v6 x49 Span.zero).To) - x48)) > a2)) = true then (some false) else (if (decide ((IntKind.wrap .i64 (x49 + 1)) < (v6.length : Int))) = true then (if 0 ≤ x49 ∧ x49 < (v6.length : Int) then (if ((IntKind.wrap .i64 (((rd v6 x49 Span.zero).To) - x48)) != a2) = true then (some false) else (law18_LayoutAll.j2 k a1 a2 v1 v6 x49)) else none) else (law18_LayoutAll.j2 k a1 a2 v1 v6 x49))) else none)) else none)) else none) else (if v1 = true then (some (x48 == a1)) else (some false))
def law18_LayoutAll.j0 : Nat → Int → Int → Int → Bool → (List Span) → Bool → Option (Bool)
  | 0, _, _, _, _, _, _ => none
  | k + 1, a0, a1, a2, v1, v6, x35 => if x35 = true then (if v1 = true then (some ((v6.length : Int) == 0)) else (some false)) else (law18_LayoutAll.l1 k a1 a2 v1 v6 a0 0)
end
def law18_LayoutAll.f (k : Nat) (a0 : Int) (a1 : Int) (a2 : Int) : Option (Bool) := (law18_small.f k ).bind fun v1 => ((law18_Few.f a0 a1 a2).bind fun v3 => (if (!v3) = true then (some v1) else ((layout_Cut.f k a0 a1 a2).bind fun v6 => (if (decide (a0 < 0)) = true then (law18_LayoutAll.j0 k a0 a1 a2 v1 v6 true) else (if (decide (a1 > 65536)) = true then (law18_LayoutAll.j0 k a0 a1 a2 v1 v6 true) else (if (decide (a2 < 1)) = true then (law18_LayoutAll.j0 k a0 a1 a2 v1 v6 true) else (law18_LayoutAll.j0 k a0 a1 a2 v1 v6 (decide (a0 ≥ a1)))))))))
theorem law18_LayoutAll.mono_l : ∀ k, (∀ y0 y1 y2 y3 y4, LeO (law18_LayoutAll.j2 k y0 y1 y2 y3 y4) (law18_LayoutAll.j2 (k + 1) y0 y1 y2 y3 y4)) ∧ (∀ y0 y1 y2 y3 y4 y5, LeO (law18_LayoutAll.l1 k y0 y1 y2 y3 y4 y5) (law18_LayoutAll.l1 (k + 1) y0 y1 y2 y3 y4 y5)) ∧ (∀ y0 y1 y2 y3 y4 y5, LeO (law18_LayoutAll.j0 k y0 y1 y2 y3 y4 y5) (law18_LayoutAll.j0 (k + 1) y0 y1 y2 y3 y4 y5))
  | 0 => ⟨fun _ _ _ _ _ r h => (by simp only [law18_LayoutAll.j2] at h; cases h), fun _ _ _ _ _ _ r h => (by simp only [law18_LayoutAll.l1] at h; cases h), fun _ _ _ _ _ _ r h => (by simp only [law18_LayoutAll.j0] at h; cases h)⟩
  | k + 1 => by
    have ih := law18_LayoutAll.mono_l k
    refine ⟨?_, ?_, ?_⟩
    · intro y0 y1 y2 y3 y4
      rw [law18_LayoutAll.j2, law18_LayoutAll.j2]
      repeat' first
        | exact LeO.refl _
        | exact LeO.none _
        | exact ih.1 _ _ _ _ _
        | exact ih.2.1 _ _ _ _ _ _
        | exact ih.2.2 _ _ _ _ _ _
        | exact layout_Cut.mono _ _ _ _
        | exact law18_small.mono _
        | refine LeO.ite ?_ ?_
        | refine LeO.bind ?_ (fun _ => ?_)
    · intro y0 y1 y2 y3 y4 y5
      rw [law18_LayoutAll.l1, law18_LayoutAll.l1]
      repeat' first
        | exact LeO.refl _
        | exact LeO.none _
        | exact ih.1 _ _ _ _ _
        | exact ih.2.1 _ _ _ _ _ _
        | exact ih.2.2 _ _ _ _ _ _
        | exact layout_Cut.mono _ _ _ _
        | exact law18_small.mono _
        | refine LeO.ite ?_ ?_
        | refine LeO.bind ?_ (fun _ => ?_)
    · intro y0 y1 y2 y3 y4 y5
      rw [law18_LayoutAll.j0, law18_LayoutAll.j0]
      repeat' first
        | exact LeO.refl _
        | exact LeO.none _
        | exact ih.1 _ _ _ _ _
        | exact ih.2.1 _ _ _ _ _ _
        | exact ih.2.2 _ _ _ _ _ _
        | exact layout_Cut.mono _ _ _ _
        | exact law18_small.mono _
        | refine LeO.ite ?_ ?_
        | refine LeO.bind ?_ (fun _ => ?_)
theorem law18_LayoutAll.mono (k : Nat) (a0 : Int) (a1 : Int) (a2 : Int) : LeO (law18_LayoutAll.f k a0 a1 a2) (law18_LayoutAll.f (k + 1) a0 a1 a2) := by
  unfold law18_LayoutAll.f
  repeat' first
    | exact LeO.refl _
    | exact LeO.none _
    | exact (law18_LayoutAll.mono_l k).1 _ _ _ _ _
    | exact (law18_LayoutAll.mono_l k).2.1 _ _ _ _ _ _
    | exact (law18_LayoutAll.mono_l k).2.2 _ _ _ _ _ _
    | exact layout_Cut.mono _ _ _ _
    | exact law18_small.mono _
    | refine LeO.ite ?_ ?_
    | refine LeO.bind ?_ (fun _ => ?_)
theorem law18_LayoutAll.ok (k : Nat) (a0 : Int) (a1 : Int) (a2 : Int) (S : Store) (r : Bool) (h : law18_LayoutAll.f k a0 a1 a2 = some r) : ACalls Tryz.prog 6 [i64 a0, i64 a1, i64 a2] S (Ret (bo r) S) := by
  unfold law18_LayoutAll.f at h
  refine acalls_of Tryz.func6 rfl ?_
  have hB : S.le S := Store.le.refl S
  refine AT_forget 0x7 (mkS 108 [(0, i64 a0), (1, i64 a1), (2, i64 a2)]) (by kernel_rfl) ?_
  refine AT_seq ?_
  refine AT_region ?_
  refine AOps_seg 1 0x7 (mkS 108 [(0, i64 a0), (1, i64 a1), (2, i64 a2)]) none [] (by kernel_rfl) (by kernel_rfl) trivial ?_
  refine AOps_end ?_
  refine athen_n ?_
  refine AT_seq ?_
  refine AT_region ?_
  obtain ⟨v1, ht2, h⟩ := Option.bind_eq_some_iff.1 h
  refine AOps_callR _ [] (tl_get rfl) rfl rfl rfl rfl Tryz.func8 (by decide) rfl ((.nil)) (law18_small.ok _  S _ ht2) ?_
  rintro _ _ ⟨rfl, e_⟩
  obtain rfl := e_.symm
  refine AOps_forget 0x1007 (mkS 108 [(0, i64 a0), (1, i64 a1), (2, i64 a2), (12, bo v1)]) (by kernel_rfl) ?_
  refine AOps_seg 1 0x87 (mkS 108 [(0, i64 a0), (1, i64 a1), (2, i64 a2), (7, bo v1)]) none [] (by kernel_rfl) (by kernel_rfl) trivial ?_
  refine AOps_end ?_
  refine athen_n ?_
  refine AT_seq ?_
  refine AT_region ?_
  refine AOps_seg 3 0xe087 (mkS 108 [(0, i64 a0), (1, i64 a1), (2, i64 a2), (7, bo v1), (13, i64 a0), (14, i64 a1), (15, i64 a2)]) none [3, 4] (by kernel_rfl) (by kernel_rfl) trivial ?_
  obtain ⟨v3, ht4, h⟩ := Option.bind_eq_some_iff.1 h
  refine AOps_callR _ [i64 a0, i64 a1, i64 a2] (tl_get rfl) rfl rfl rfl rfl Tryz.func9 (by decide) rfl ((.cons (D.le.refl _) (.cons (D.le.refl _) (.cons (D.le.refl _) (.nil))))) (law18_Few.ok a0 a1 a2 S _ ht4) ?_
  rintro _ _ ⟨rfl, e_⟩
  obtain rfl := e_.symm
  refine AOps_forget 0x10087 (mkS 108 [(0, i64 a0), (1, i64 a1), (2, i64 a2), (7, bo v1), (16, bo v3)]) (by kernel_rfl) ?_
  refine AOps_seg 1 0x187 (mkS 108 [(0, i64 a0), (1, i64 a1), (2, i64 a2), (7, bo v1), (8, bo v3)]) none [] (by kernel_rfl) (by kernel_rfl) trivial ?_
  refine AOps_end ?_
  refine athen_n ?_
  refine AT_seq ?_
  refine AT_seq ?_
  refine AT_region ?_
  refine AOps_seg 2 0x40087 (mkS 108 [(0, i64 a0), (1, i64 a1), (2, i64 a2), (7, bo v1), (18, bo (!v3))]) none [] (by kernel_rfl) (by kernel_rfl) trivial ?_
  refine AOps_end ?_
  refine athen_n ?_
  refine AT_condS (!v3) (by kernel_rfl) (fun hc5 => ?_) (fun hc5 => ?_)
  · rw [if_t hc5] at h
    refine AT_seq ?_
    refine AT_region ?_
    refine AOps_seg 2 0x40 (mkS 108 [(6, bo v1)]) none [] (by kernel_rfl) (by kernel_rfl) trivial ?_
    refine AOps_end ?_
    refine athen_n ?_
    refine AT_ret ?_
    refine athen_r ?_
    have e_ := Option.some.inj h
    subst e_
    exact ⟨[bo v1], bo v1, S, (.of (by kernel_rfl)), D.le.refl _, hB, rfl, rfl⟩
  · rw [if_f hc5] at h
    refine AT_skip ?_
    refine athen_n ?_
    refine AT_seq ?_
    refine AT_region ?_
    refine AOps_seg 3 0x700087 (mkS 108 [(0, i64 a0), (1, i64 a1), (2, i64 a2), (7, bo v1), (20, i64 a0), (21, i64 a1), (22, i64 a2)]) none [3, 4] (by kernel_rfl) (by kernel_rfl) trivial ?_
    obtain ⟨v6, ht7, h⟩ := Option.bind_eq_some_iff.1 h
    refine AOps_callR _ [i64 a0, i64 a1, i64 a2] (tl_get rfl) rfl rfl rfl rfl Tryz.func10 (by decide) rfl ((.cons (D.le.refl _) (.cons (D.le.refl _) (.cons (D.le.refl _) (.nil))))) (layout_Cut.ok _ a0 a1 a2 S _ ht7) ?_
    rintro _ S10 ⟨t8, hf9, rfl, e_⟩
    have u11 : Upd _ S10 t8 _ := e_ ▸ Upd.mk' _ _ _
    clear e_
    have ff12 := fresh_le hB hf9
    have at13 := u11.at_
    have hB14 := u11.le hB ff12
    refine AOps_forget 0x800087 (mkS 108 [(0, i64 a0), (1, i64 a1), (2, i64 a2), (7, bo v1), (23, .sl 2 (v6.map Span.enc) (some t8))]) (by kernel_rfl) ?_
    refine AOps_seg 1 0x287 (mkS 108 [(0, i64 a0), (1, i64 a1), (2, i64 a2), (7, bo v1), (9, .sl 2 (v6.map Span.enc) (some t8))]) none [] (by kernel_rfl) (by kernel_rfl) trivial ?_
    refine AOps_end ?_
    refine athen_n ?_
    refine AT_seq ?_
    refine AT_cutM 0x4000000287 (fun sl_ S36 => ∃ (x35 : Bool), ∃ (tk34 : Nat), sl_ = mkS 108 [(0, i64 a0), (1, i64 a1), (2, i64 a2), (7, bo v1), (9, .sl 2 (v6.map Span.enc) (some tk34)), (38, bo x35)] ∧ law18_LayoutAll.j0 k a0 a1 a2 v1 v6 x35 = some r ∧ S36.le S ∧ S.tk tk34 = none ∧ S36.tk tk34 = some ((v6).length, 2)) ?_ ?_
    · refine AT_region ?_
      refine AOps_seg 3 0x4000287 (mkS 108 [(0, i64 a0), (1, i64 a1), (2, i64 a2), (7, bo v1), (9, .sl 2 (v6.map Span.enc) (some t8)), (26, bo (decide (a0 < 0)))]) none [3, 4, 5, 6, 7, 8, 9, 10, 11, 12, 13, 14] (by kernel_rfl) (by kernel_rfl) trivial ?_
      refine AOps_caseS 26 (decide (a0 < 0)) (by kernel_rfl) (mkS 108 [(0, i64 a0), (1, i64 a1), (2, i64 a2), (7, bo v1), (9, .sl 2 (v6.map Span.enc) (some t8)), (26, bo true)]) (mkS 108 [(0, i64 a0), (1, i64 a1), (2, i64 a2), (7, bo v1), (9, .sl 2 (v6.map Span.enc) (some t8)), (26, bo false)]) (by kernel_rfl) (by kernel_rfl) (fun hc40 => ?_) (fun hc40 => ?_)
      · rw [if_t hc40] at h
        refine AOps_seg 12 0x4000000287 (mkS 108 [(0, i64 a0), (1, i64 a1), (2, i64 a2), (7, bo v1), (9, .sl 2 (v6.map Span.enc) (some t8)), (38, bo true)]) none [] (by kernel_rfl) (by kernel_rfl) trivial ?_
        refine AOps_end ?_
        refine athen_n ?_
        exact ⟨true, t8, (by kernel_rfl), h, hB14, ff12, (at13.trans (by simp))⟩
      · rw [if_f hc40] at h
        refine AOps_seg 4 0x40000287 (mkS 108 [(0, i64 a0), (1, i64 a1), (2, i64 a2), (7, bo v1), (9, .sl 2 (v6.map Span.enc) (some t8)), (30, bo (decide (a1 > 65536)))]) none [7, 8, 9, 10, 11, 12, 13, 14] (by kernel_rfl) (by kernel_rfl) trivial ?_
        refine AOps_caseS 30 (decide (a1 > 65536)) (by kernel_rfl) (mkS 108 [(0, i64 a0), (1, i64 a1), (2, i64 a2), (7, bo v1), (9, .sl 2 (v6.map Span.enc) (some t8)), (30, bo true)]) (mkS 108 [(0, i64 a0), (1, i64 a1), (2, i64 a2), (7, bo v1), (9, .sl 2 (v6.map Span.enc) (some t8)), (30, bo false)]) (by kernel_rfl) (by kernel_rfl) (fun hc41 => ?_) (fun hc41 => ?_)
        · rw [if_t hc41] at h
          refine AOps_seg 8 0x4000000287 (mkS 108 [(0, i64 a0), (1, i64 a1), (2, i64 a2), (7, bo v1), (9, .sl 2 (v6.map Span.enc) (some t8)), (38, bo true)]) none [] (by kernel_rfl) (by kernel_rfl) trivial ?_
          refine AOps_end ?_
          refine athen_n ?_
          exact ⟨true, t8, (by kernel_rfl), h, hB14, ff12, (at13.trans (by simp))⟩
        · rw [if_f hc41] at h
          refine AOps_seg 4 0x400000287 (mkS 108 [(0, i64 a0), (1, i64 a1), (2, i64 a2), (7, bo v1), (9, .sl 2 (v6.map Span.enc) (some t8)), (34, bo (decide (a2 < 1)))]) none [11, 12, 13, 14] (by kernel_rfl) (by kernel_rfl) trivial ?_
          refine AOps_caseS 34 (decide (a2 < 1)) (by kernel_rfl) (mkS 108 [(0, i64 a0), (1, i64 a1), (2, i64 a2), (7, bo v1), (9, .sl 2 (v6.map Span.enc) (some t8)), (34, bo true)]) (mkS 108 [(0, i64 a0), (1, i64 a1), (2, i64 a2), (7, bo v1), (9, .sl 2 (v6.map Span.enc) (some t8)), (34, bo false)]) (by kernel_rfl) (by kernel_rfl) (fun hc42 => ?_) (fun hc42 => ?_)
          · rw [if_t hc42] at h
            refine AOps_seg 4 0x4000000287 (mkS 108 [(0, i64 a0), (1, i64 a1), (2, i64 a2), (7, bo v1), (9, .sl 2 (v6.map Span.enc) (some t8)), (38, bo true)]) none [] (by kernel_rfl) (by kernel_rfl) trivial ?_
            refine AOps_end ?_
            refine athen_n ?_
            exact ⟨true, t8, (by kernel_rfl), h, hB14, ff12, (at13.trans (by simp))⟩
          · rw [if_f hc42] at h
            refine AOps_seg 4 0x4000000287 (mkS 108 [(0, i64 a0), (1, i64 a1), (2, i64 a2), (7, bo v1), (9, .sl 2 (v6.map Span.enc) (some t8)), (38, bo (decide (a0 ≥ a1)))]) none [] (by kernel_rfl) (by kernel_rfl) trivial ?_
            refine AOps_end ?_
            refine athen_n ?_
            exact ⟨decide (a0 ≥ a1), t8, (by kernel_rfl), h, hB14, ff12, (at13.trans (by simp))⟩
    · clear h
      rintro sl_ S36 ⟨x35, tk34, rfl, h, hB37, ff38, at39⟩
      cases k with
      | zero => cases h
      | succ k43 =>
        rw [law18_LayoutAll.j0] at h
        refine AT_condS x35 (by kernel_rfl) (fun hc44 => ?_) (fun hc44 => ?_)
        · rw [if_t hc44] at h
          refine AT_seq ?_
          refine AT_region ?_
          refine AOps_seg 2 0x10000000200 (mkS 108 [(9, .sl 2 (v6.map Span.enc) (some tk34)), (40, bo v1)]) none [2, 3, 4, 5, 6] (by kernel_rfl) (by kernel_rfl) trivial ?_
          refine AOps_caseS 40 v1 (by kernel_rfl) (mkS 108 [(9, .sl 2 (v6.map Span.enc) (some tk34)), (40, bo true)]) (mkS 108 [(9, .sl 2 (v6.map Span.enc) (some tk34)), (40, bo false)]) (by kernel_rfl) (by kernel_rfl) (fun hc45 => ?_) (fun hc45 => ?_)
          · rw [if_t hc45] at h
            refine AOps_seg 2 0x50000000000 (mkS 108 [(40, bo true), (42, i64 ((v6.map Span.enc).length : Int))]) none [4, 5, 6] (by kernel_rfl) (by kernel_rfl) trivial ?_
            refine AOps_to (mkS 108 [(40, bo true), (42, i64 (v6.length : Int))]) (by rw [List.length_map]) ?_
            refine AOps_seg 3 0x40 (mkS 108 [(6, bo ((v6.length : Int) == 0))]) none [] (by kernel_rfl) (by kernel_rfl) trivial ?_
            refine AOps_end ?_
            refine athen_n ?_
            refine AT_ret ?_
            refine athen_r ?_
            have e_ := Option.some.inj h
            subst e_
            exact ⟨[bo ((v6.length : Int) == 0)], bo ((v6.length : Int) == 0), S, (.of (by kernel_rfl)), D.le.refl _, hB37, rfl, rfl⟩
          · rw [if_f hc45] at h
            refine AOps_seg 5 0x40 (mkS 108 [(6, bo false)]) none [] (by kernel_rfl) (by kernel_rfl) trivial ?_
            refine AOps_end ?_
            refine athen_n ?_
            refine AT_ret ?_
            refine athen_r ?_
            have e_ := Option.some.inj h
            subst e_
            exact ⟨[bo false], bo false, S, (.of (by kernel_rfl)), D.le.refl _, hB37, rfl, rfl⟩
        · rw [if_f hc44] at h
          refine AT_skip ?_
          refine athen_n ?_
          refine AT_seq ?_
          refine AT_region ?_
          refine AOps_seg 2 0x686 (mkS 108 [(1, i64 a1), (2, i64 a2), (7, bo v1), (9, .sl 2 (v6.map Span.enc) (some tk34)), (10, i64 a0)]) none [] (by kernel_rfl) (by kernel_rfl) trivial ?_
          refine AOps_end ?_
          refine athen_n ?_
          refine AT_seq ?_
          refine AT_seq ?_
          refine AT_region ?_
          refine AOps_seg 1 0xe86 (mkS 108 [(1, i64 a1), (2, i64 a2), (7, bo v1), (9, .sl 2 (v6.map Span.enc) (some tk34)), (10, i64 a0), (11, i64 0)]) none [] (by kernel_rfl) (by kernel_rfl) trivial ?_
          refine AOps_end ?_
          refine athen_n ?_
          refine AT_block ?_
          refine AT_loopM 0xe86 (fun k_ sl_ S50 => ∃ (x48 : Int), ∃ (x49 : Int), ∃ (tk47 : Nat), sl_ = mkS 108 [(1, i64 a1), (2, i64 a2), (7, bo v1), (9, .sl 2 (v6.map Span.enc) (some tk47)), (10, i64 x48), (11, i64 x49)] ∧ law18_LayoutAll.l1 k_ a1 a2 v1 v6 x48 x49 = some r ∧ S50.le S ∧ S.tk tk47 = none ∧ S50.tk tk47 = some ((v6).length, 2)) k43 ⟨a0, 0, tk34, (by kernel_rfl), h, hB37, ff38, (at39.trans (by simp))⟩ ?_
          rintro k' sl_ S50 ⟨x48, x49, tk47, rfl, h, hB51, ff52, at53⟩
          cases k' with
          | zero => cases h
          | succ k54 =>
            rw [law18_LayoutAll.l1] at h
            refine AT_seq ?_
            refine AT_seq ?_
            refine AT_region ?_
            refine AOps_seg 3 0x1400000000e86 (mkS 108 [(1, i64 a1), (2, i64 a2), (7, bo v1), (9, .sl 2 (v6.map Span.enc) (some tk47)), (10, i64 x48), (11, i64 x49), (46, i64 x49), (48, i64 ((v6.map Span.enc).length : Int))]) none [3] (by kernel_rfl) (by kernel_rfl) trivial ?_
            refine AOps_to (mkS 108 [(1, i64 a1), (2, i64 a2), (7, bo v1), (9, .sl 2 (v6.map Span.enc) (some tk47)), (10, i64 x48), (11, i64 x49), (46, i64 x49), (48, i64 (v6.length : Int))]) (by rw [List.length_map]) ?_
            refine AOps_seg 1 0x2000000000e86 (mkS 108 [(1, i64 a1), (2, i64 a2), (7, bo v1), (9, .sl 2 (v6.map Span.enc) (some tk47)), (10, i64 x48), (11, i64 x49), (49, bo (decide (x49 < (v6.length : Int))))]) none [] (by kernel_rfl) (by kernel_rfl) trivial ?_
            refine AOps_end ?_
            refine athen_n ?_
            refine AT_condS (decide (x49 < (v6.length : Int))) (by kernel_rfl) (fun hc56 => ?_) (fun hc56 => ?_)
            · rw [if_t hc56] at h
              refine AT_skip ?_
              refine athen_n ?_
              refine AT_seq ?_
              refine AT_block ?_
              refine AT_cutM 0xa86 (fun sl_ S68 => ∃ (tk67 : Nat), sl_ = mkS 108 [(1, i64 a1), (2, i64 a2), (7, bo v1), (9, .sl 2 (v6.map Span.enc) (some tk67)), (11, i64 x49)] ∧ law18_LayoutAll.j2 k54 a1 a2 v1 v6 x49 = some r ∧ S68.le S ∧ S.tk tk67 = none ∧ S68.tk tk67 = some ((v6).length, 2)) ?_ ?_
              · refine AT_seq ?_
                refine AT_region ?_
                by_cases hi72 : 0 ≤ x49 ∧ x49 < (v6.length : Int)
                rotate_left
                · rw [if_neg hi72] at h; cases h
                rw [if_pos hi72] at h
                refine AOps_seg 3 0x40000000000e86 (mkS 108 [(1, i64 a1), (2, i64 a2), (7, bo v1), (9, .sl 2 (v6.map Span.enc) (some tk47)), (10, i64 x48), (11, i64 x49), (54, .pt ((v6.map Span.enc).getD (x49 : Int).toNat []))]) (some (0 ≤ x49 ∧ x49 < ((v6.map Span.enc).length : Int))) [3, 4, 5, 6, 7, 8, 9, 10, 11, 12, 13, 14, 15, 16, 17, 18, 19, 20, 21, 22, 23, 24, 25, 26, 27, 28, 29, 30, 31, 32, 33, 34, 35, 36, 37, 38, 39, 40, 41, 42, 43, 44] (by kernel_rfl) (by kernel_rfl) (idx_ok hi72) ?_
                refine AOps_to (mkS 108 [(1, i64 a1), (2, i64 a2), (7, bo v1), (9, .sl 2 (v6.map Span.enc) (some tk47)), (10, i64 x48), (11, i64 x49), (54, .pt (Span.enc (rd v6 x49 Span.zero)))]) (by rw [pt_rd Span.enc v6 x49 Span.zero hi72.1 hi72.2]) ?_
                refine AOps_seg 5 0x800000000000e86 (mkS 108 [(1, i64 a1), (2, i64 a2), (7, bo v1), (9, .sl 2 (v6.map Span.enc) (some tk47)), (10, i64 x48), (11, i64 x49), (59, bo (((rd v6 x49 Span.zero).From) != x48))]) none [8, 9, 10, 11, 12, 13, 14, 15, 16, 17, 18, 19, 20, 21, 22, 23, 24, 25, 26, 27, 28, 29, 30, 31, 32, 33, 34, 35, 36, 37, 38, 39, 40, 41, 42, 43, 44] (by kernel_rfl) (by kernel_rfl) trivial ?_
                refine AOps_caseS 59 (((rd v6 x49 Span.zero).From) != x48) (by kernel_rfl) (mkS 108 [(1, i64 a1), (2, i64 a2), (7, bo v1), (9, .sl 2 (v6.map Span.enc) (some tk47)), (10, i64 x48), (11, i64 x49), (59, bo true)]) (mkS 108 [(1, i64 a1), (2, i64 a2), (7, bo v1), (9, .sl 2 (v6.map Span.enc) (some tk47)), (10, i64 x48), (11, i64 x49), (59, bo false)]) (by kernel_rfl) (by kernel_rfl) (fun hc73 => ?_) (fun hc73 => ?_)
                · rw [if_t hc73] at h
                  refine AOps_seg 37 0x1000000000000000000000a86 (mkS 108 [(1, i64 a1), (2, i64 a2), (7, bo v1), (9, .sl 2 (v6.map Span.enc) (some tk47)), (11, i64 x49), (96, bo true)]) none [] (by kernel_rfl) (by kernel_rfl) trivial ?_
                  refine AOps_end ?_
                  refine athen_n ?_
                  refine AT_cond_t (by kernel_rfl) ?_
                  refine AT_seq ?_
                  refine AT_region ?_
                  refine AOps_seg 1 0x40 (mkS 108 [(6, bo false)]) none [] (by kernel_rfl) (by kernel_rfl) trivial ?_
                  refine AOps_end ?_
                  refine athen_n ?_
                  refine AT_ret ?_
                  refine athen_r ?_
                  refine ablock_r ?_
                  refine athen_r ?_
                  refine athen_r ?_
                  refine ablock_r ?_
                  refine athen_r ?_
                  have e_ := Option.some.inj h
                  subst e_
                  exact ⟨[bo false], bo false, S, (.of (by kernel_rfl)), D.le.refl _, hB51, rfl, rfl⟩
                · rw [if_f hc73] at h
                  by_cases hi74 : 0 ≤ x49 ∧ x49 < (v6.length : Int)
                  rotate_left
                  · rw [if_neg hi74] at h; cases h
                  rw [if_pos hi74] at h
                  refine AOps_seg 3 0x4800000000000e86 (mkS 108 [(1, i64 a1), (2, i64 a2), (7, bo v1), (9, .sl 2 (v6.map Span.enc) (some tk47)), (10, i64 x48), (11, i64 x49), (59, bo false), (62, .pt ((v6.map Span.enc).getD (x49 : Int).toNat []))]) (some (0 ≤ x49 ∧ x49 < ((v6.map Span.enc).length : Int))) [11, 12, 13, 14, 15, 16, 17, 18, 19, 20, 21, 22, 23, 24, 25, 26, 27, 28, 29, 30, 31, 32, 33, 34, 35, 36, 37, 38, 39, 40, 41, 42, 43, 44] (by kernel_rfl) (by kernel_rfl) (idx_ok hi74) ?_
                  refine AOps_to (mkS 108 [(1, i64 a1), (2, i64 a2), (7, bo v1), (9, .sl 2 (v6.map Span.enc) (some tk47)), (10, i64 x48), (11, i64 x49), (59, bo false), (62, .pt (Span.enc (rd v6 x49 Span.zero)))]) (by rw [pt_rd Span.enc v6 x49 Span.zero hi74.1 hi74.2]) ?_
                  refine AOps_seg 6 0x100000000000000e86 (mkS 108 [(1, i64 a1), (2, i64 a2), (7, bo v1), (9, .sl 2 (v6.map Span.enc) (some tk47)), (10, i64 x48), (11, i64 x49), (68, bo (decide (((rd v6 x49 Span.zero).To) ≤ x48)))]) none [17, 18, 19, 20, 21, 22, 23, 24, 25, 26, 27, 28, 29, 30, 31, 32, 33, 34, 35, 36, 37, 38, 39, 40, 41, 42, 43, 44] (by kernel_rfl) (by kernel_rfl) trivial ?_
                  refine AOps_caseS 68 (decide (((rd v6 x49 Span.zero).To) ≤ x48)) (by kernel_rfl) (mkS 108 [(1, i64 a1), (2, i64 a2), (7, bo v1), (9, .sl 2 (v6.map Span.enc) (some tk47)), (10, i64 x48), (11, i64 x49), (68, bo true)]) (mkS 108 [(1, i64 a1), (2, i64 a2), (7, bo v1), (9, .sl 2 (v6.map Span.enc) (some tk47)), (10, i64 x48), (11, i64 x49), (68, bo false)]) (by kernel_rfl) (by kernel_rfl) (fun hc75 => ?_) (fun hc75 => ?_)
                  · rw [if_t hc75] at h
                    refine AOps_seg 28 0x1000000000000000000000a86 (mkS 108 [(1, i64 a1), (2, i64 a2), (7, bo v1), (9, .sl 2 (v6.map Span.enc) (some tk47)), (11, i64 x49), (96, bo true)]) none [] (by kernel_rfl) (by kernel_rfl) trivial ?_
                    refine AOps_end ?_
                    refine athen_n ?_
                    refine AT_cond_t (by kernel_rfl) ?_
                    refine AT_seq ?_
                    refine AT_region ?_
                    refine AOps_seg 1 0x40 (mkS 108 [(6, bo false)]) none [] (by kernel_rfl) (by kernel_rfl) trivial ?_
                    refine AOps_end ?_
                    refine athen_n ?_
                    refine AT_ret ?_
                    refine athen_r ?_
                    refine ablock_r ?_
                    refine athen_r ?_
                    refine athen_r ?_
                    refine ablock_r ?_
                    refine athen_r ?_
                    have e_ := Option.some.inj h
                    subst e_
                    exact ⟨[bo false], bo false, S, (.of (by kernel_rfl)), D.le.refl _, hB51, rfl, rfl⟩
                  · rw [if_f hc75] at h
                    by_cases hi76 : 0 ≤ x49 ∧ x49 < (v6.length : Int)
                    rotate_left
                    · rw [if_neg hi76] at h; cases h
                    rw [if_pos hi76] at h
                    refine AOps_seg 3 0x900000000000000e86 (mkS 108 [(1, i64 a1), (2, i64 a2), (7, bo v1), (9, .sl 2 (v6.map Span.enc) (some tk47)), (10, i64 x48), (11, i64 x49), (68, bo false), (71, .pt ((v6.map Span.enc).getD (x49 : Int).toNat []))]) (some (0 ≤ x49 ∧ x49 < ((v6.map Span.enc).length : Int))) [20, 21, 22, 23, 24, 25, 26, 27, 28, 29, 30, 31, 32, 33, 34, 35, 36, 37, 38, 39, 40, 41, 42, 43, 44] (by kernel_rfl) (by kernel_rfl) (idx_ok hi76) ?_
                    refine AOps_to (mkS 108 [(1, i64 a1), (2, i64 a2), (7, bo v1), (9, .sl 2 (v6.map Span.enc) (some tk47)), (10, i64 x48), (11, i64 x49), (68, bo false), (71, .pt (Span.enc (rd v6 x49 Span.zero)))]) (by rw [pt_rd Span.enc v6 x49 Span.zero hi76.1 hi76.2]) ?_
                    refine AOps_seg 8 0x80000000000000000e86 (mkS 108 [(1, i64 a1), (2, i64 a2), (7, bo v1), (9, .sl 2 (v6.map Span.enc) (some tk47)), (10, i64 x48), (11, i64 x49), (79, bo (decide ((IntKind.wrap .i64 (((rd v6 x49 Span.zero).To) - x48)) > a2)))]) none [28, 29, 30, 31, 32, 33, 34, 35, 36, 37, 38, 39, 40, 41, 42, 43, 44] (by kernel_rfl) (by kernel_rfl) trivial ?_
                    refine AOps_caseS 79 (decide ((IntKind.wrap .i64 (((rd v6 x49 Span.zero).To) - x48)) > a2)) (by kernel_rfl) (mkS 108 [(1, i64 a1), (2, i64 a2), (7, bo v1), (9, .sl 2 (v6.map Span.enc) (some tk47)), (10, i64 x48), (11, i64 x49), (79, bo true)]) (mkS 108 [(1, i64 a1), (2, i64 a2), (7, bo v1), (9, .sl 2 (v6.map Span.enc) (some tk47)), (10, i64 x48), (11, i64 x49), (79, bo false)]) (by kernel_rfl) (by kernel_rfl) (fun hc77 => ?_) (fun hc77 => ?_)
                    · rw [if_t hc77] at h
                      refine AOps_seg 17 0x1000000000000000000000a86 (mkS 108 [(1, i64 a1), (2, i64 a2), (7, bo v1), (9, .sl 2 (v6.map Span.enc) (some tk47)), (11, i64 x49), (96, bo true)]) none [] (by kernel_rfl) (by kernel_rfl) trivial ?_
                      refine AOps_end ?_
                      refine athen_n ?_
                      refine AT_cond_t (by kernel_rfl) ?_
                      refine AT_seq ?_
                      refine AT_region ?_
                      refine AOps_seg 1 0x40 (mkS 108 [(6, bo false)]) none [] (by kernel_rfl) (by kernel_rfl) trivial ?_
                      refine AOps_end ?_
                      refine athen_n ?_
                      refine AT_ret ?_
                      refine athen_r ?_
                      refine ablock_r ?_
                      refine athen_r ?_
                      refine athen_r ?_
                      refine ablock_r ?_
                      refine athen_r ?_
                      have e_ := Option.some.inj h
                      subst e_
                      exact ⟨[bo false], bo false, S, (.of (by kernel_rfl)), D.le.refl _, hB51, rfl, rfl⟩
                    · rw [if_f hc77] at h
                      refine AOps_seg 4 0xa80000000000000000e86 (mkS 108 [(1, i64 a1), (2, i64 a2), (7, bo v1), (9, .sl 2 (v6.map Span.enc) (some tk47)), (10, i64 x48), (11, i64 x49), (79, bo false), (81, i64 (IntKind.wrap .i64 (x49 + 1))), (83, i64 ((v6.map Span.enc).length : Int))]) none [32, 33, 34, 35, 36, 37, 38, 39, 40, 41, 42, 43, 44] (by kernel_rfl) (by kernel_rfl) trivial ?_
                      refine AOps_to (mkS 108 [(1, i64 a1), (2, i64 a2), (7, bo v1), (9, .sl 2 (v6.map Span.enc) (some tk47)), (10, i64 x48), (11, i64 x49), (79, bo false), (81, i64 (IntKind.wrap .i64 (x49 + 1))), (83, i64 (v6.length : Int))]) (by rw [List.length_map]) ?_
                      refine AOps_seg 2 0x2080000000000000000e86 (mkS 108 [(1, i64 a1), (2, i64 a2), (7, bo v1), (9, .sl 2 (v6.map Span.enc) (some tk47)), (10, i64 x48), (11, i64 x49), (79, bo false), (85, bo (decide ((IntKind.wrap .i64 (x49 + 1)) < (v6.length : Int))))]) none [34, 35, 36, 37, 38, 39, 40, 41, 42, 43, 44] (by kernel_rfl) (by kernel_rfl) trivial ?_
                      refine AOps_caseS 85 (decide ((IntKind.wrap .i64 (x49 + 1)) < (v6.length : Int))) (by kernel_rfl) (mkS 108 [(1, i64 a1), (2, i64 a2), (7, bo v1), (9, .sl 2 (v6.map Span.enc) (some tk47)), (10, i64 x48), (11, i64 x49), (79, bo false), (85, bo true)]) (mkS 108 [(1, i64 a1), (2, i64 a2), (7, bo v1), (9, .sl 2 (v6.map Span.enc) (some tk47)), (10, i64 x48), (11, i64 x49), (79, bo false), (85, bo false)]) (by kernel_rfl) (by kernel_rfl) (fun hc79 => ?_) (fun hc79 => ?_)
                      · rw [if_t hc79] at h
                        by_cases hi80 : 0 ≤ x49 ∧ x49 < (v6.length : Int)
                        rotate_left
                        · rw [if_neg hi80] at h; cases h
                        rw [if_pos hi80] at h
                        refine AOps_seg 3 0x12080000000000000000e86 (mkS 108 [(1, i64 a1), (2, i64 a2), (7, bo v1), (9, .sl 2 (v6.map Span.enc) (some tk47)), (10, i64 x48), (11, i64 x49), (79, bo false), (85, bo true), (88, .pt ((v6.map Span.enc).getD (x49 : Int).toNat []))]) (some (0 ≤ x49 ∧ x49 < ((v6.map Span.enc).length : Int))) [37, 38, 39, 40, 41, 42, 43, 44] (by kernel_rfl) (by kernel_rfl) (idx_ok hi80) ?_
                        refine AOps_to (mkS 108 [(1, i64 a1), (2, i64 a2), (7, bo v1), (9, .sl 2 (v6.map Span.enc) (some tk47)), (10, i64 x48), (11, i64 x49), (79, bo false), (85, bo true), (88, .pt (Span.enc (rd v6 x49 Span.zero)))]) (by rw [pt_rd Span.enc v6 x49 Span.zero hi80.1 hi80.2]) ?_
                        refine AOps_seg 8 0x1000000000000000000000a86 (mkS 108 [(1, i64 a1), (2, i64 a2), (7, bo v1), (9, .sl 2 (v6.map Span.enc) (some tk47)), (11, i64 x49), (96, bo ((IntKind.wrap .i64 (((rd v6 x49 Span.zero).To) - x48)) != a2))]) none [] (by kernel_rfl) (by kernel_rfl) trivial ?_
                        refine AOps_end ?_
                        refine athen_n ?_
                        refine AT_condS ((IntKind.wrap .i64 (((rd v6 x49 Span.zero).To) - x48)) != a2) (by kernel_rfl) (fun hc81 => ?_) (fun hc81 => ?_)
                        · rw [if_t hc81] at h
                          refine AT_seq ?_
                          refine AT_region ?_
                          refine AOps_seg 1 0x40 (mkS 108 [(6, bo false)]) none [] (by kernel_rfl) (by kernel_rfl) trivial ?_
                          refine AOps_end ?_
                          refine athen_n ?_
                          refine AT_ret ?_
                          refine athen_r ?_
                          refine ablock_r ?_
                          refine athen_r ?_
                          refine athen_r ?_
                          refine ablock_r ?_
                          refine athen_r ?_
                          have e_ := Option.some.inj h
                          subst e_
                          exact ⟨[bo false], bo false, S, (.of (by kernel_rfl)), D.le.refl _, hB51, rfl, rfl⟩
                        · rw [if_f hc81] at h
                          refine AT_skip ?_
                          refine athen_n ?_
                          exact ⟨tk47, (by kernel_rfl), h, hB51, ff52, (at53.trans (by simp))⟩
                      · rw [if_f hc79] at h
                        refine AOps_seg 11 0x1000000000000000000000a86 (mkS 108 [(1, i64 a1), (2, i64 a2), (7, bo v1), (9, .sl 2 (v6.map Span.enc) (some tk47)), (11, i64 x49), (96, bo false)]) none [] (by kernel_rfl) (by kernel_rfl) trivial ?_
                        refine AOps_end ?_
                        refine athen_n ?_
                        refine AT_cond_f (by kernel_rfl) ?_
                        refine AT_skip ?_
                        refine athen_n ?_
                        exact ⟨tk47, (by kernel_rfl), h, hB51, ff52, (at53.trans (by simp))⟩
              · clear h
                rintro sl_ S68 ⟨tk67, rfl, h, hB69, ff70, at71⟩
                cases k54 with
                | zero => cases h
                | succ k82 =>
                  rw [law18_LayoutAll.j2] at h
                  refine AT_region ?_
                  by_cases hi83 : 0 ≤ x49 ∧ x49 < (v6.length : Int)
                  rotate_left
                  · rw [if_neg hi83] at h; cases h
                  rw [if_pos hi83] at h
                  refine AOps_seg 3 0x8000000000000000000000a86 (mkS 108 [(1, i64 a1), (2, i64 a2), (7, bo v1), (9, .sl 2 (v6.map Span.enc) (some tk67)), (11, i64 x49), (99, .pt ((v6.map Span.enc).getD (x49 : Int).toNat []))]) (some (0 ≤ x49 ∧ x49 < ((v6.map Span.enc).length : Int))) [3, 4, 5] (by kernel_rfl) (by kernel_rfl) (idx_ok hi83) ?_
                  refine AOps_to (mkS 108 [(1, i64 a1), (2, i64 a2), (7, bo v1), (9, .sl 2 (v6.map Span.enc) (some tk67)), (11, i64 x49), (99, .pt (Span.enc (rd v6 x49 Span.zero)))]) (by rw [pt_rd Span.enc v6 x49 Span.zero hi83.1 hi83.2]) ?_
                  refine AOps_seg 3 0xe86 (mkS 108 [(1, i64 a1), (2, i64 a2), (7, bo v1), (9, .sl 2 (v6.map Span.enc) (some tk67)), (10, i64 ((rd v6 x49 Span.zero).To)), (11, i64 x49)]) none [] (by kernel_rfl) (by kernel_rfl) trivial ?_
                  refine AOps_end ?_
                  refine ablock_n ?_
                  refine athen_n ?_
                  refine AT_region ?_
                  refine AOps_seg 3 0xe86 (mkS 108 [(1, i64 a1), (2, i64 a2), (7, bo v1), (9, .sl 2 (v6.map Span.enc) (some tk67)), (10, i64 ((rd v6 x49 Span.zero).To)), (11, i64 (IntKind.wrap .i64 (x49 + 1)))]) none [] (by kernel_rfl) (by kernel_rfl) trivial ?_
                  refine AOps_end ?_
                  refine athen_n ?_
                  exact ⟨k82, (by omega), (rd v6 x49 Span.zero).To, IntKind.wrap .i64 (x49 + 1), tk67, (by kernel_rfl), h, hB69, ff70, (at71.trans (by simp))⟩
            · rw [if_f hc56] at h
              refine AT_exit ?_
              refine athen_e ?_
              refine athen_e ?_
              refine ablock_h ?_
              refine athen_n ?_
              refine AT_seq ?_
              refine AT_region ?_
              refine AOps_seg 2 0x80000000000000000000000402 (mkS 108 [(1, i64 a1), (10, i64 x48), (103, bo v1)]) none [2, 3, 4, 5, 6] (by kernel_rfl) (by kernel_rfl) trivial ?_
              refine AOps_caseS 103 v1 (by kernel_rfl) (mkS 108 [(1, i64 a1), (10, i64 x48), (103, bo true)]) (mkS 108 [(1, i64 a1), (10, i64 x48), (103, bo false)]) (by kernel_rfl) (by kernel_rfl) (fun hc84 => ?_) (fun hc84 => ?_)
              · rw [if_t hc84] at h
                refine AOps_seg 5 0x40 (mkS 108 [(6, bo (x48 == a1))]) none [] (by kernel_rfl) (by kernel_rfl) trivial ?_
                refine AOps_end ?_
                refine athen_n ?_
                refine AT_ret ?_
                have e_ := Option.some.inj h
                subst e_
                exact ⟨[bo (x48 == a1)], bo (x48 == a1), S, (.of (by kernel_rfl)), D.le.refl _, hB51, rfl, rfl⟩
              · rw [if_f hc84] at h
                refine AOps_seg 5 0x40 (mkS 108 [(6, bo false)]) none [] (by kernel_rfl) (by kernel_rfl) trivial ?_
                refine AOps_end ?_
                refine athen_n ?_
                refine AT_ret ?_
                have e_ := Option.some.inj h
                subst e_
                exact ⟨[bo false], bo false, S, (.of (by kernel_rfl)), D.le.refl _, hB51, rfl, rfl⟩
end Go.Proofs.YtjapfalijpfmpaaGreatDoor.Abs
