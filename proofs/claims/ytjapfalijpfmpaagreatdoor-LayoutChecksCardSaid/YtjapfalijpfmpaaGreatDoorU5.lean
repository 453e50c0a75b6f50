/- What functions of the program compute, each with the proof that it does (printed by wip/gen/all.py). -/
import Derived.Test.YtjapfalijpfmpaaGreatDoorU4
import Derived.KernelRfl
namespace Go.Proofs.YtjapfalijpfmpaaGreatDoor.Abs
open Go
set_option maxRecDepth 100000
def law18_LayoutParts.l0 : Nat → Int → Int → Int → Bool → Int → Int → (List Span) → Int → Int → Option (Bool)
  | 0, _, _, _, _, _, _, _, _, _ => none
  | k + 1, a1, a3, a4, v1, v28, v29, v32, x44, x45 => if (decide (x45 < (v32.length : Int))) = true then (if 0 ≤ x45 ∧ x45 < (v32.length : Int) then (if 0 ≤ x45 ∧ x45 < (v32.length : Int) then ((layout_Cut.f k ((rd v32 x45 Span.zero).From) ((rd v32 x45 Span.zero).To) a1).bind fun v55 => ((layout_Over.f k v55 a3 a4).bind fun q_v66 => (law18_LayoutParts.l0 k a1 a3 a4 v1 v28 v29 v32 (IntKind.wrap .i64 ((IntKind.wrap .i64 (x44 + q_v66.2)) - q_v66.1)) (IntKind.wrap .i64 (x45 + 1))))) else none) else none) else (if v1 = true then (some (x44 == (IntKind.wrap .i64 (v29 - v28)))) else (some false))
def law18_LayoutParts.f (k : Nat) (a0 : Int) (a1 : Int) (a2 : Int) (a3 : Int) (a4 : Int) : Option (Bool) := (law18_small.f k ).bind fun v1 => (if (decide (a1 < 1)) = true then (some v1) else (if (decide (a1 > 1000)) = true then (some v1) else (if (decide (a2 < 1)) = true then (some v1) else (if (decide (a2 > 50)) = true then (some v1) else (if (decide (a0 < 0)) = true then (some v1) else (if (decide (a0 > 3000)) = true then (some v1) else (if (decide (a3 < 0)) = true then (some v1) else (if (decide (a4 > a0)) = true then (some v1) else ((layout_Cut.f k 0 a0 a1).bind fun v19 => ((layout_Over.f k v19 a3 a4).bind fun q_v28 => ((layout_Cut.f k 0 a0 (IntKind.wrap .i64 (a1 * a2))).bind fun v32 => (law18_LayoutParts.l0 k a1 a3 a4 v1 q_v28.1 q_v28.2 v32 0 0))))))))))))
theorem law18_LayoutParts.mono_l : ∀ k, (∀ y0 y1 y2 y3 y4 y5 y6 y7 y8, LeO (law18_LayoutParts.l0 k y0 y1 y2 y3 y4 y5 y6 y7 y8) (law18_LayoutParts.l0 (k + 1) y0 y1 y2 y3 y4 y5 y6 y7 y8))
  | 0 => fun _ _ _ _ _ _ _ _ _ r h => (by simp only [law18_LayoutParts.l0] at h; cases h)
  | k + 1 => by
    have ih := law18_LayoutParts.mono_l k
    · intro y0 y1 y2 y3 y4 y5 y6 y7 y8
      rw [law18_LayoutParts.l0, law18_LayoutParts.l0]
      repeat' first
        | exact LeO.refl _
        | exact LeO.none _
        | exact ih _ _ _ _ _ _ _ _ _
        | exact layout_Cut.mono _ _ _ _
        | exact layout_Over.mono _ _ _ _
        | exact law18_small.mono _
        | refine LeO.ite ?_ ?_
        | refine LeO.bind ?_ (fun _ => ?_)
theorem law18_LayoutParts.mono (k : Nat) (a0 : Int) (a1 : Int) (a2 : Int) (a3 : Int) (a4 : Int) : LeO (law18_LayoutParts.f k a0 a1 a2 a3 a4) (law18_LayoutParts.f (k + 1) a0 a1 a2 a3 a4) := by
  unfold law18_LayoutParts.f
  repeat' first
    | exact LeO.refl _
    | exact LeO.none _
    | exact (law18_LayoutParts.mono_l k) _ _ _ _ _ _ _ _ _
    | exact layout_Cut.mono _ _ _ _
    | exact layout_Over.mono _ _ _ _
    | exact law18_small.mono _
    | refine LeO.ite ?_ ?_
    | refine LeO.bind ?_ (fun _ => ?_)
theorem law18_LayoutParts.ok (k : Nat) (a0 : Int) (a1 : Int) (a2 : Int) (a3 : Int) (a4 : Int) (S : Store) (r : Bool) (h : law18_LayoutParts.f k a0 a1 a2 a3 a4 = some r) : ACalls Tryz.prog 7 [i64 a0, i64 a1, i64 a2, i64 a3, i64 a4] S (Ret (bo r) S) := by
  unfold law18_LayoutParts.f at h
  refine acalls_of Tryz.func7 rfl ?_
  have hB : S.le S := Store.le.refl S
  refine AT_forget 0x1f (mkS 103 [(0, i64 a0), (1, i64 a1), (2, i64 a2), (3, i64 a3), (4, i64 a4)]) (by kernel_rfl) ?_
  refine AT_seq ?_
  refine AT_region ?_
  refine AOps_seg 1 0x1f (mkS 103 [(0, i64 a0), (1, i64 a1), (2, i64 a2), (3, i64 a3), (4, i64 a4)]) none [] (by kernel_rfl) (by kernel_rfl) trivial ?_
  refine AOps_end ?_
  refine athen_n ?_
  refine AT_seq ?_
  refine AT_region ?_
  obtain ⟨v1, ht2, h⟩ := Option.bind_eq_some_iff.1 h
  refine AOps_callR _ [] (tl_get rfl) rfl rfl rfl rfl Tryz.func8 (by decide) rfl ((.nil)) (law18_small.ok _  S _ ht2) ?_
  rintro _ _ ⟨rfl, e_⟩
  obtain rfl := e_.symm
  refine AOps_forget 0x8001f (mkS 103 [(0, i64 a0), (1, i64 a1), (2, i64 a2), (3, i64 a3), (4, i64 a4), (19, bo v1)]) (by kernel_rfl) ?_
  refine AOps_seg 1 0x81f (mkS 103 [(0, i64 a0), (1, i64 a1), (2, i64 a2), (3, i64 a3), (4, i64 a4), (11, bo v1)]) none [] (by kernel_rfl) (by kernel_rfl) trivial ?_
  refine AOps_end ?_
  refine athen_n ?_
  refine AT_seq ?_
  refine AT_seq ?_
  refine AT_region ?_
  refine AOps_seg 3 0x40081f (mkS 103 [(0, i64 a0), (1, i64 a1), (2, i64 a2), (3, i64 a3), (4, i64 a4), (11, bo v1), (22, bo (decide (a1 < 1)))]) none [3, 4, 5, 6, 7, 8, 9, 10, 11, 12, 13, 14, 15, 16, 17, 18, 19, 20, 21, 22, 23, 24, 25, 26, 27, 28, 29, 30] (by kernel_rfl) (by kernel_rfl) trivial ?_
  refine AOps_caseS 22 (decide (a1 < 1)) (by kernel_rfl) (mkS 103 [(0, i64 a0), (1, i64 a1), (2, i64 a2), (3, i64 a3), (4, i64 a4), (11, bo v1), (22, bo true)]) (mkS 103 [(0, i64 a0), (1, i64 a1), (2, i64 a2), (3, i64 a3), (4, i64 a4), (11, bo v1), (22, bo false)]) (by kernel_rfl) (by kernel_rfl) (fun hc11 => ?_) (fun hc11 => ?_)
  · rw [if_t hc11] at h
    refine AOps_seg 28 0x400000000081f (mkS 103 [(0, i64 a0), (1, i64 a1), (2, i64 a2), (3, i64 a3), (4, i64 a4), (11, bo v1), (50, bo true)]) none [] (by kernel_rfl) (by kernel_rfl) trivial ?_
    refine AOps_end ?_
    refine athen_n ?_
    refine AT_cond_t (by kernel_rfl) ?_
    refine AT_seq ?_
    refine AT_region ?_
    refine AOps_seg 2 0x400 (mkS 103 [(10, bo v1)]) none [] (by kernel_rfl) (by kernel_rfl) trivial ?_
    refine AOps_end ?_
    refine athen_n ?_
    refine AT_ret ?_
    refine athen_r ?_
    have e_ := Option.some.inj h
    subst e_
    exact ⟨[bo v1], bo v1, S, (.of (by kernel_rfl)), D.le.refl _, hB, rfl, rfl⟩
  · rw [if_f hc11] at h
    refine AOps_seg 4 0x400081f (mkS 103 [(0, i64 a0), (1, i64 a1), (2, i64 a2), (3, i64 a3), (4, i64 a4), (11, bo v1), (26, bo (decide (a1 > 1000)))]) none [7, 8, 9, 10, 11, 12, 13, 14, 15, 16, 17, 18, 19, 20, 21, 22, 23, 24, 25, 26, 27, 28, 29, 30] (by kernel_rfl) (by kernel_rfl) trivial ?_
    refine AOps_caseS 26 (decide (a1 > 1000)) (by kernel_rfl) (mkS 103 [(0, i64 a0), (1, i64 a1), (2, i64 a2), (3, i64 a3), (4, i64 a4), (11, bo v1), (26, bo true)]) (mkS 103 [(0, i64 a0), (1, i64 a1), (2, i64 a2), (3, i64 a3), (4, i64 a4), (11, bo v1), (26, bo false)]) (by kernel_rfl) (by kernel_rfl) (fun hc12 => ?_) (fun hc12 => ?_)
    · rw [if_t hc12] at h
      refine AOps_seg 24 0x400000000081f (mkS 103 [(0, i64 a0), (1, i64 a1), (2, i64 a2), (3, i64 a3), (4, i64 a4), (11, bo v1), (50, bo true)]) none [] (by kernel_rfl) (by kernel_rfl) trivial ?_
      refine AOps_end ?_
      refine athen_n ?_
      refine AT_cond_t (by kernel_rfl) ?_
      refine AT_seq ?_
      refine AT_region ?_
      refine AOps_seg 2 0x400 (mkS 103 [(10, bo v1)]) none [] (by kernel_rfl) (by kernel_rfl) trivial ?_
      refine AOps_end ?_
      refine athen_n ?_
      refine AT_ret ?_
      refine athen_r ?_
      have e_ := Option.some.inj h
      subst e_
      exact ⟨[bo v1], bo v1, S, (.of (by kernel_rfl)), D.le.refl _, hB, rfl, rfl⟩
    · rw [if_f hc12] at h
      refine AOps_seg 4 0x4000081f (mkS 103 [(0, i64 a0), (1, i64 a1), (2, i64 a2), (3, i64 a3), (4, i64 a4), (11, bo v1), (30, bo (decide (a2 < 1)))]) none [11, 12, 13, 14, 15, 16, 17, 18, 19, 20, 21, 22, 23, 24, 25, 26, 27, 28, 29, 30] (by kernel_rfl) (by kernel_rfl) trivial ?_
      refine AOps_caseS 30 (decide (a2 < 1)) (by kernel_rfl) (mkS 103 [(0, i64 a0), (1, i64 a1), (2, i64 a2), (3, i64 a3), (4, i64 a4), (11, bo v1), (30, bo true)]) (mkS 103 [(0, i64 a0), (1, i64 a1), (2, i64 a2), (3, i64 a3), (4, i64 a4), (11, bo v1), (30, bo false)]) (by kernel_rfl) (by kernel_rfl) (fun hc13 => ?_) (fun hc13 => ?_)
      · rw [if_t hc13] at h
        refine AOps_seg 20 0x400000000081f (mkS 103 [(0, i64 a0), (1, i64 a1), (2, i64 a2), (3, i64 a3), (4, i64 a4), (11, bo v1), (50, bo true)]) none [] (by kernel_rfl) (by kernel_rfl) trivial ?_
        refine AOps_end ?_
        refine athen_n ?_
        refine AT_cond_t (by kernel_rfl) ?_
        refine AT_seq ?_
        refine AT_region ?_
        refine AOps_seg 2 0x400 (mkS 103 [(10, bo v1)]) none [] (by kernel_rfl) (by kernel_rfl) trivial ?_
        refine AOps_end ?_
        refine athen_n ?_
        refine AT_ret ?_
        refine athen_r ?_
        have e_ := Option.some.inj h
        subst e_
        exact ⟨[bo v1], bo v1, S, (.of (by kernel_rfl)), D.le.refl _, hB, rfl, rfl⟩
      · rw [if_f hc13] at h
        refine AOps_seg 4 0x40000081f (mkS 103 [(0, i64 a0), (1, i64 a1), (2, i64 a2), (3, i64 a3), (4, i64 a4), (11, bo v1), (34, bo (decide (a2 > 50)))]) none [15, 16, 17, 18, 19, 20, 21, 22, 23, 24, 25, 26, 27, 28, 29, 30] (by kernel_rfl) (by kernel_rfl) trivial ?_
        refine AOps_caseS 34 (decide (a2 > 50)) (by kernel_rfl) (mkS 103 [(0, i64 a0), (1, i64 a1), (2, i64 a2), (3, i64 a3), (4, i64 a4), (11, bo v1), (34, bo true)]) (mkS 103 [(0, i64 a0), (1, i64 a1), (2, i64 a2), (3, i64 a3), (4, i64 a4), (11, bo v1), (34, bo false)]) (by kernel_rfl) (by kernel_rfl) (fun hc14 => ?_) (fun hc14 => ?_)
        · rw [if_t hc14] at h
          refine AOps_seg 16 0x400000000081f (mkS 103 [(0, i64 a0), (1, i64 a1), (2, i64 a2), (3, i64 a3), (4, i64 a4), (11, bo v1), (50, bo true)]) none [] (by kernel_rfl) (by kernel_rfl) trivial ?_
          refine AOps_end ?_
          refine athen_n ?_
          refine AT_cond_t (by kernel_rfl) ?_
          refine AT_seq ?_
          refine AT_region ?_
          refine AOps_seg 2 0x400 (mkS 103 [(10, bo v1)]) none [] (by kernel_rfl) (by kernel_rfl) trivial ?_
          refine AOps_end ?_
          refine athen_n ?_
          refine AT_ret ?_
          refine athen_r ?_
          have e_ := Option.some.inj h
          subst e_
          exact ⟨[bo v1], bo v1, S, (.of (by kernel_rfl)), D.le.refl _, hB, rfl, rfl⟩
        · rw [if_f hc14] at h
          refine AOps_seg 4 0x400000081f (mkS 103 [(0, i64 a0), (1, i64 a1), (2, i64 a2), (3, i64 a3), (4, i64 a4), (11, bo v1), (38, bo (decide (a0 < 0)))]) none [19, 20, 21, 22, 23, 24, 25, 26, 27, 28, 29, 30] (by kernel_rfl) (by kernel_rfl) trivial ?_
          refine AOps_caseS 38 (decide (a0 < 0)) (by kernel_rfl) (mkS 103 [(0, i64 a0), (1, i64 a1), (2, i64 a2), (3, i64 a3), (4, i64 a4), (11, bo v1), (38, bo true)]) (mkS 103 [(0, i64 a0), (1, i64 a1), (2, i64 a2), (3, i64 a3), (4, i64 a4), (11, bo v1), (38, bo false)]) (by kernel_rfl) (by kernel_rfl) (fun hc15 => ?_) (fun hc15 => ?_)
          · rw [if_t hc15] at h
            refine AOps_seg 12 0x400000000081f (mkS 103 [(0, i64 a0), (1, i64 a1), (2, i64 a2), (3, i64 a3), (4, i64 a4), (11, bo v1), (50, bo true)]) none [] (by kernel_rfl) (by kernel_rfl) trivial ?_
            refine AOps_end ?_
            refine athen_n ?_
            refine AT_cond_t (by kernel_rfl) ?_
            refine AT_seq ?_
            refine AT_region ?_
            refine AOps_seg 2 0x400 (mkS 103 [(10, bo v1)]) none [] (by kernel_rfl) (by kernel_rfl) trivial ?_
            refine AOps_end ?_
            refine athen_n ?_
            refine AT_ret ?_
            refine athen_r ?_
            have e_ := Option.some.inj h
            subst e_
            exact ⟨[bo v1], bo v1, S, (.of (by kernel_rfl)), D.le.refl _, hB, rfl, rfl⟩
          · rw [if_f hc15] at h
            refine AOps_seg 4 0x4000000081f (mkS 103 [(0, i64 a0), (1, i64 a1), (2, i64 a2), (3, i64 a3), (4, i64 a4), (11, bo v1), (42, bo (decide (a0 > 3000)))]) none [23, 24, 25, 26, 27, 28, 29, 30] (by kernel_rfl) (by kernel_rfl) trivial ?_
            refine AOps_caseS 42 (decide (a0 > 3000)) (by kernel_rfl) (mkS 103 [(0, i64 a0), (1, i64 a1), (2, i64 a2), (3, i64 a3), (4, i64 a4), (11, bo v1), (42, bo true)]) (mkS 103 [(0, i64 a0), (1, i64 a1), (2, i64 a2), (3, i64 a3), (4, i64 a4), (11, bo v1), (42, bo false)]) (by kernel_rfl) (by kernel_rfl) (fun hc16 => ?_) (fun hc16 => ?_)
            · rw [if_t hc16] at h
              refine AOps_seg 8 0x400000000081f (mkS 103 [(0, i64 a0), (1, i64 a1), (2, i64 a2), (3, i64 a3), (4, i64 a4), (11, bo v1), (50, bo true)]) none [] (by kernel_rfl) (by kernel_rfl) trivial ?_
              refine AOps_end ?_
              refine athen_n ?_
              refine AT_cond_t (by kernel_rfl) ?_
              refine AT_seq ?_
              refine AT_region ?_
              refine AOps_seg 2 0x400 (mkS 103 [(10, bo v1)]) none [] (by kernel_rfl) (by kernel_rfl) trivial ?_
              refine AOps_end ?_
              refine athen_n ?_
              refine AT_ret ?_
              refine athen_r ?_
              have e_ := Option.some.inj h
              subst e_
              exact ⟨[bo v1], bo v1, S, (.of (by kernel_rfl)), D.le.refl _, hB, rfl, rfl⟩
            · rw [if_f hc16] at h
              refine AOps_seg 4 0x40000000081f (mkS 103 [(0, i64 a0), (1, i64 a1), (2, i64 a2), (3, i64 a3), (4, i64 a4), (11, bo v1), (46, bo (decide (a3 < 0)))]) none [27, 28, 29, 30] (by kernel_rfl) (by kernel_rfl) trivial ?_
              refine AOps_caseS 46 (decide (a3 < 0)) (by kernel_rfl) (mkS 103 [(0, i64 a0), (1, i64 a1), (2, i64 a2), (3, i64 a3), (4, i64 a4), (11, bo v1), (46, bo true)]) (mkS 103 [(0, i64 a0), (1, i64 a1), (2, i64 a2), (3, i64 a3), (4, i64 a4), (11, bo v1), (46, bo false)]) (by kernel_rfl) (by kernel_rfl) (fun hc17 => ?_) (fun hc17 => ?_)
              · rw [if_t hc17] at h
                refine AOps_seg 4 0x400000000081f (mkS 103 [(0, i64 a0), (1, i64 a1), (2, i64 a2), (3, i64 a3), (4, i64 a4), (11, bo v1), (50, bo true)]) none [] (by kernel_rfl) (by kernel_rfl) trivial ?_
                refine AOps_end ?_
                refine athen_n ?_
                refine AT_cond_t (by kernel_rfl) ?_
                refine AT_seq ?_
                refine AT_region ?_
                refine AOps_seg 2 0x400 (mkS 103 [(10, bo v1)]) none [] (by kernel_rfl) (by kernel_rfl) trivial ?_
                refine AOps_end ?_
                refine athen_n ?_
                refine AT_ret ?_
                refine athen_r ?_
                have e_ := Option.some.inj h
                subst e_
                exact ⟨[bo v1], bo v1, S, (.of (by kernel_rfl)), D.le.refl _, hB, rfl, rfl⟩
              · rw [if_f hc17] at h
                refine AOps_seg 4 0x400000000081f (mkS 103 [(0, i64 a0), (1, i64 a1), (2, i64 a2), (3, i64 a3), (4, i64 a4), (11, bo v1), (50, bo (decide (a4 > a0)))]) none [] (by kernel_rfl) (by kernel_rfl) trivial ?_
                refine AOps_end ?_
                refine athen_n ?_
                refine AT_condS (decide (a4 > a0)) (by kernel_rfl) (fun hc18 => ?_) (fun hc18 => ?_)
                · rw [if_t hc18] at h
                  refine AT_seq ?_
                  refine AT_region ?_
                  refine AOps_seg 2 0x400 (mkS 103 [(10, bo v1)]) none [] (by kernel_rfl) (by kernel_rfl) trivial ?_
                  refine AOps_end ?_
                  refine athen_n ?_
                  refine AT_ret ?_
                  refine athen_r ?_
                  have e_ := Option.some.inj h
                  subst e_
                  exact ⟨[bo v1], bo v1, S, (.of (by kernel_rfl)), D.le.refl _, hB, rfl, rfl⟩
                · rw [if_f hc18] at h
                  refine AT_skip ?_
                  refine athen_n ?_
                  refine AT_seq ?_
                  refine AT_region ?_
                  refine AOps_seg 2 0x6000000000081f (mkS 103 [(0, i64 a0), (1, i64 a1), (2, i64 a2), (3, i64 a3), (4, i64 a4), (11, bo v1), (53, i64 a0), (54, i64 a1)]) none [2, 3, 4, 5, 6, 7, 8, 9, 10] (by kernel_rfl) (by kernel_rfl) trivial ?_
                  obtain ⟨v19, ht20, h⟩ := Option.bind_eq_some_iff.1 h
                  refine AOps_callR _ [i64 0, i64 a0, i64 a1] (tl_get rfl) rfl rfl rfl rfl Tryz.func10 (by decide) rfl ((.cons (D.le.refl _) (.cons (D.le.refl _) (.cons (D.le.refl _) (.nil))))) (layout_Cut.ok _ 0 a0 a1 S _ ht20) ?_
                  rintro _ S23 ⟨t21, hf22, rfl, e_⟩
                  have u24 : Upd _ S23 t21 _ := e_ ▸ Upd.mk' _ _ _
                  clear e_
                  have ff25 := fresh_le hB hf22
                  have at26 := u24.at_
                  have hB27 := u24.le hB ff25
                  refine AOps_forget 0x8000000000081f (mkS 103 [(0, i64 a0), (1, i64 a1), (2, i64 a2), (3, i64 a3), (4, i64 a4), (11, bo v1), (55, .sl 2 (v19.map Span.enc) (some t21))]) (by kernel_rfl) ?_
                  refine AOps_seg 2 0x38000000000081f (mkS 103 [(0, i64 a0), (1, i64 a1), (2, i64 a2), (3, i64 a3), (4, i64 a4), (11, bo v1), (55, .sl 2 (v19.map Span.enc) (some t21)), (56, i64 a3), (57, i64 a4)]) none [5, 6, 7, 8, 9, 10] (by kernel_rfl) (by kernel_rfl) trivial ?_
                  obtain ⟨⟨v28, v29⟩, ht30, h⟩ := Option.bind_eq_some_iff.1 h
                  simp only at h
                  refine AOps_callR _ [.sl 2 (v19.map Span.enc) none, i64 a3, i64 a4] (tl_get rfl) rfl rfl rfl rfl Tryz.func12 (by decide) rfl ((.cons (sl_le) (.cons (D.le.refl _) (.cons (D.le.refl _) (.nil))))) (layout_Over.ok _ v19 a3 a4 S23 _ _ ht30) ?_
                  rintro _ S31 ⟨_, rfl, ⟨_, rfl, ⟨_, rfl, ⟨rfl, e_⟩⟩⟩⟩
                  obtain rfl := e_.symm
                  refine AOps_forget 0x40000000000081f (mkS 103 [(0, i64 a0), (1, i64 a1), (2, i64 a2), (3, i64 a3), (4, i64 a4), (11, bo v1), (58, .tup [i64 v28, i64 v29])]) (by kernel_rfl) ?_
                  refine AOps_seg 5 0x381f (mkS 103 [(0, i64 a0), (1, i64 a1), (2, i64 a2), (3, i64 a3), (4, i64 a4), (11, bo v1), (12, i64 v28), (13, i64 v29)]) none [] (by kernel_rfl) (by kernel_rfl) trivial ?_
                  refine AOps_end ?_
                  refine athen_n ?_
                  refine AT_seq ?_
                  refine AT_region ?_
                  refine AOps_seg 4 0x1200000000000381a (mkS 103 [(1, i64 a1), (3, i64 a3), (4, i64 a4), (11, bo v1), (12, i64 v28), (13, i64 v29), (61, i64 a0), (64, i64 (IntKind.wrap .i64 (a1 * a2)))]) none [4, 5] (by kernel_rfl) (by kernel_rfl) trivial ?_
                  obtain ⟨v32, ht33, h⟩ := Option.bind_eq_some_iff.1 h
                  refine AOps_callR _ [i64 0, i64 a0, i64 (IntKind.wrap .i64 (a1 * a2))] (tl_get rfl) rfl rfl rfl rfl Tryz.func10 (by decide) rfl ((.cons (D.le.refl _) (.cons (D.le.refl _) (.cons (D.le.refl _) (.nil))))) (layout_Cut.ok _ 0 a0 (IntKind.wrap .i64 (a1 * a2)) S23 _ ht33) ?_
                  rintro _ S36 ⟨t34, hf35, rfl, e_⟩
                  have u37 : Upd _ S36 t34 _ := e_ ▸ Upd.mk' _ _ _
                  clear e_
                  have ff38 := fresh_le hB27 hf35
                  have ne39 := ne_of_fresh at26 hf35
                  have at40 := u37.tk at26 ne39
                  have at41 := u37.at_
                  have hB42 := u37.le hB27 ff38
                  refine AOps_forget 0x2000000000000381a (mkS 103 [(1, i64 a1), (3, i64 a3), (4, i64 a4), (11, bo v1), (12, i64 v28), (13, i64 v29), (65, .sl 2 (v32.map Span.enc) (some t34))]) (by kernel_rfl) ?_
                  refine AOps_seg 1 0x781a (mkS 103 [(1, i64 a1), (3, i64 a3), (4, i64 a4), (11, bo v1), (12, i64 v28), (13, i64 v29), (14, .sl 2 (v32.map Span.enc) (some t34))]) none [] (by kernel_rfl) (by kernel_rfl) trivial ?_
                  refine AOps_end ?_
                  refine athen_n ?_
                  refine AT_seq ?_
                  refine AT_region ?_
                  refine AOps_seg 1 0xf81a (mkS 103 [(1, i64 a1), (3, i64 a3), (4, i64 a4), (11, bo v1), (12, i64 v28), (13, i64 v29), (14, .sl 2 (v32.map Span.enc) (some t34)), (15, i64 0)]) none [] (by kernel_rfl) (by kernel_rfl) trivial ?_
                  refine AOps_end ?_
                  refine athen_n ?_
                  refine AT_seq ?_
                  refine AT_seq ?_
                  refine AT_region ?_
                  refine AOps_seg 1 0x1f81a (mkS 103 [(1, i64 a1), (3, i64 a3), (4, i64 a4), (11, bo v1), (12, i64 v28), (13, i64 v29), (14, .sl 2 (v32.map Span.enc) (some t34)), (15, i64 0), (16, i64 0)]) none [] (by kernel_rfl) (by kernel_rfl) trivial ?_
                  refine AOps_end ?_
                  refine athen_n ?_
                  refine AT_block ?_
                  refine AT_loopM 0x1f81a (fun k_ sl_ S46 => ∃ (x44 : Int), ∃ (x45 : Int), ∃ (tk43 : Nat), sl_ = mkS 103 [(1, i64 a1), (3, i64 a3), (4, i64 a4), (11, bo v1), (12, i64 v28), (13, i64 v29), (14, .sl 2 (v32.map Span.enc) (some tk43)), (15, i64 x44), (16, i64 x45)] ∧ law18_LayoutParts.l0 k_ a1 a3 a4 v1 v28 v29 v32 x44 x45 = some r ∧ S46.le S ∧ S.tk tk43 = none ∧ S46.tk tk43 = some ((v32).length, 2)) k ⟨0, 0, t34, (by kernel_rfl), h, hB42, ff38, (at41.trans (by simp))⟩ ?_
                  rintro k' sl_ S46 ⟨x44, x45, tk43, rfl, h, hB47, ff48, at49⟩
                  cases k' with
                  | zero => cases h
                  | succ k50 =>
                    rw [law18_LayoutParts.l0] at h
                    refine AT_seq ?_
                    refine AT_seq ?_
                    refine AT_region ?_
                    refine AOps_seg 3 0x14000000000001f81a (mkS 103 [(1, i64 a1), (3, i64 a3), (4, i64 a4), (11, bo v1), (12, i64 v28), (13, i64 v29), (14, .sl 2 (v32.map Span.enc) (some tk43)), (15, i64 x44), (16, i64 x45), (66, i64 x45), (68, i64 ((v32.map Span.enc).length : Int))]) none [3] (by kernel_rfl) (by kernel_rfl) trivial ?_
                    refine AOps_to (mkS 103 [(1, i64 a1), (3, i64 a3), (4, i64 a4), (11, bo v1), (12, i64 v28), (13, i64 v29), (14, .sl 2 (v32.map Span.enc) (some tk43)), (15, i64 x44), (16, i64 x45), (66, i64 x45), (68, i64 (v32.length : Int))]) (by rw [List.length_map]) ?_
                    refine AOps_seg 1 0x20000000000001f81a (mkS 103 [(1, i64 a1), (3, i64 a3), (4, i64 a4), (11, bo v1), (12, i64 v28), (13, i64 v29), (14, .sl 2 (v32.map Span.enc) (some tk43)), (15, i64 x44), (16, i64 x45), (69, bo (decide (x45 < (v32.length : Int))))]) none [] (by kernel_rfl) (by kernel_rfl) trivial ?_
                    refine AOps_end ?_
                    refine athen_n ?_
                    refine AT_condS (decide (x45 < (v32.length : Int))) (by kernel_rfl) (fun hc52 => ?_) (fun hc52 => ?_)
                    · rw [if_t hc52] at h
                      refine AT_skip ?_
                      refine athen_n ?_
                      refine AT_seq ?_
                      refine AT_block ?_
                      refine AT_seq ?_
                      refine AT_draw [11, 14] (by kernel_rfl) ?_
                      refine AAny_seg 20 [] 0x3ffff00000000000007f81a (mkS 103 [(1, i64 a1), (3, i64 a3), (4, i64 a4), (11, bo v1), (12, i64 v28), (13, i64 v29), (14, .sl 2 (v32.map Span.enc) (some tk43)), (15, i64 x44), (16, i64 x45)]) none #[false, false, false, false, false, false, false, false, false, false, false, false, false, false, false, false, false, false, false, false] (by kernel_rfl) trivial (by kernel_rfl) ?_
                      by_cases hi53 : 0 ≤ x45 ∧ x45 < (v32.length : Int)
                      rotate_left
                      · rw [if_neg hi53] at h; cases h
                      rw [if_pos hi53] at h
                      refine AAny_seg 17 [0, 1, 2] 0x3fff900000000000007f81a (mkS 103 [(1, i64 a1), (3, i64 a3), (4, i64 a4), (11, bo v1), (12, i64 v28), (13, i64 v29), (14, .sl 2 (v32.map Span.enc) (some tk43)), (15, i64 x44), (16, i64 x45), (75, .pt ((v32.map Span.enc).getD (x45 : Int).toNat []))]) (some (0 ≤ x45 ∧ x45 < ((v32.map Span.enc).length : Int))) #[true, true, true, false, false, false, false, false, false, false, false, false, false, false, false, false, false, false, false, false] (by kernel_rfl) (idx_ok hi53) (by kernel_rfl) ?_
                      refine AAny_to (mkS 103 [(1, i64 a1), (3, i64 a3), (4, i64 a4), (11, bo v1), (12, i64 v28), (13, i64 v29), (14, .sl 2 (v32.map Span.enc) (some tk43)), (15, i64 x44), (16, i64 x45), (75, .pt (Span.enc (rd v32 x45 Span.zero)))]) (by rw [pt_rd Span.enc v32 x45 Span.zero hi53.1 hi53.2]) ?_
                      by_cases hi54 : 0 ≤ x45 ∧ x45 < (v32.length : Int)
                      rotate_left
                      · rw [if_neg hi54] at h; cases h
                      rw [if_pos hi54] at h
                      refine AAny_seg 12 [3, 4, 5, 6, 7] 0x3ff2100000000000007f81a (mkS 103 [(1, i64 a1), (3, i64 a3), (4, i64 a4), (11, bo v1), (12, i64 v28), (13, i64 v29), (14, .sl 2 (v32.map Span.enc) (some tk43)), (15, i64 x44), (16, i64 x45), (77, i64 ((rd v32 x45 Span.zero).From)), (80, .pt ((v32.map Span.enc).getD (x45 : Int).toNat []))]) (some (0 ≤ x45 ∧ x45 < ((v32.map Span.enc).length : Int))) #[true, true, true, true, true, true, true, true, false, false, false, false, false, false, false, false, false, false, false, false] (by kernel_rfl) (idx_ok hi54) (by kernel_rfl) ?_
                      refine AAny_to (mkS 103 [(1, i64 a1), (3, i64 a3), (4, i64 a4), (11, bo v1), (12, i64 v28), (13, i64 v29), (14, .sl 2 (v32.map Span.enc) (some tk43)), (15, i64 x44), (16, i64 x45), (77, i64 ((rd v32 x45 Span.zero).From)), (80, .pt (Span.enc (rd v32 x45 Span.zero)))]) (by rw [pt_rd Span.enc v32 x45 Span.zero hi54.1 hi54.2]) ?_
                      refine AAny_seg 7 [8, 9, 10, 12, 13] 0x3fc2100000000000007f81a (mkS 103 [(1, i64 a1), (3, i64 a3), (4, i64 a4), (11, bo v1), (12, i64 v28), (13, i64 v29), (14, .sl 2 (v32.map Span.enc) (some tk43)), (15, i64 x44), (16, i64 x45), (77, i64 ((rd v32 x45 Span.zero).From)), (82, i64 ((rd v32 x45 Span.zero).To)), (83, i64 a1), (85, i64 a3), (86, i64 a4)]) none #[true, true, true, true, true, true, true, true, true, true, true, false, true, true, false, false, false, false, false, false] (by kernel_rfl) trivial (by kernel_rfl) ?_
                      refine AAny_eff (fuel := 6) 11 (tl_get rfl) (by kernel_rfl) (by kernel_rfl) (by kernel_rfl) ?_
                      obtain ⟨v55, ht56, h⟩ := Option.bind_eq_some_iff.1 h
                      refine AOps_callR _ [i64 ((rd v32 x45 Span.zero).From), i64 ((rd v32 x45 Span.zero).To), i64 a1] (tl_get rfl) rfl rfl rfl rfl Tryz.func10 (by decide) rfl ((.cons (D.le.refl _) (.cons (D.le.refl _) (.cons (D.le.refl _) (.nil))))) (layout_Cut.ok _ ((rd v32 x45 Span.zero).From) ((rd v32 x45 Span.zero).To) a1 S46 _ ht56) ?_
                      rintro _ S59 ⟨t57, hf58, rfl, e_⟩
                      have u60 : Upd _ S59 t57 _ := e_ ▸ Upd.mk' _ _ _
                      clear e_
                      have ff61 := fresh_le hB47 hf58
                      have ne62 := ne_of_fresh at49 hf58
                      have at63 := u60.tk at49 ne62
                      have at64 := u60.at_
                      have hB65 := u60.le hB47 ff61
                      refine AOps_end ⟨rfl, _, rfl, ?_⟩; refine AAny_forget 0x700000000000000001f81a (mkS 103 [(1, i64 a1), (3, i64 a3), (4, i64 a4), (11, bo v1), (12, i64 v28), (13, i64 v29), (14, .sl 2 (v32.map Span.enc) (some tk43)), (15, i64 x44), (16, i64 x45), (84, .sl 2 (v55.map Span.enc) (some t57)), (85, i64 a3), (86, i64 a4)]) #[true, true, true, true, true, true, true, true, true, true, true, true, true, true, false, false, false, false, false, false] (by kernel_rfl) (by kernel_rfl) ?_
                      refine AAny_eff (fuel := 5) 14 (tl_get rfl) (by kernel_rfl) (by kernel_rfl) (by kernel_rfl) ?_
                      obtain ⟨⟨v66, v67⟩, ht68, h⟩ := Option.bind_eq_some_iff.1 h
                      simp only at h
                      refine AOps_callR _ [.sl 2 (v55.map Span.enc) none, i64 a3, i64 a4] (tl_get rfl) rfl rfl rfl rfl Tryz.func12 (by decide) rfl ((.cons (sl_le) (.cons (D.le.refl _) (.cons (D.le.refl _) (.nil))))) (layout_Over.ok _ v55 a3 a4 S59 _ _ ht68) ?_
                      rintro _ S69 ⟨_, rfl, ⟨_, rfl, ⟨_, rfl, ⟨rfl, e_⟩⟩⟩⟩
                      obtain rfl := e_.symm
                      refine AOps_end ⟨rfl, _, rfl, ?_⟩; refine AAny_forget 0x800000000000000001f81a (mkS 103 [(1, i64 a1), (3, i64 a3), (4, i64 a4), (11, bo v1), (12, i64 v28), (13, i64 v29), (14, .sl 2 (v32.map Span.enc) (some tk43)), (15, i64 x44), (16, i64 x45), (87, .tup [i64 v66, i64 v67])]) #[true, true, true, true, true, true, true, true, true, true, true, true, true, true, true, false, false, false, false, false] (by kernel_rfl) (by kernel_rfl) ?_
                      refine AAny_seg 0 [15, 16, 17, 18, 19] 0x7f81a (mkS 103 [(1, i64 a1), (3, i64 a3), (4, i64 a4), (11, bo v1), (12, i64 v28), (13, i64 v29), (14, .sl 2 (v32.map Span.enc) (some tk43)), (15, i64 x44), (16, i64 x45), (17, i64 v66), (18, i64 v67)]) none #[true, true, true, true, true, true, true, true, true, true, true, true, true, true, true, true, true, true, true, true] (by kernel_rfl) trivial (by kernel_rfl) ?_
                      refine AAny_end (by kernel_rfl) ?_
                      refine athen_n ?_
                      refine AT_region ?_
                      refine AOps_seg 6 0x1f81a (mkS 103 [(1, i64 a1), (3, i64 a3), (4, i64 a4), (11, bo v1), (12, i64 v28), (13, i64 v29), (14, .sl 2 (v32.map Span.enc) (some tk43)), (15, i64 (IntKind.wrap .i64 ((IntKind.wrap .i64 (x44 + v67)) - v66))), (16, i64 x45)]) none [] (by kernel_rfl) (by kernel_rfl) trivial ?_
                      refine AOps_end ?_
                      refine ablock_n ?_
                      refine athen_n ?_
                      refine AT_region ?_
                      refine AOps_seg 3 0x1f81a (mkS 103 [(1, i64 a1), (3, i64 a3), (4, i64 a4), (11, bo v1), (12, i64 v28), (13, i64 v29), (14, .sl 2 (v32.map Span.enc) (some tk43)), (15, i64 (IntKind.wrap .i64 ((IntKind.wrap .i64 (x44 + v67)) - v66))), (16, i64 (IntKind.wrap .i64 (x45 + 1)))]) none [] (by kernel_rfl) (by kernel_rfl) trivial ?_
                      refine AOps_end ?_
                      refine athen_n ?_
                      exact ⟨k50, (by omega), IntKind.wrap .i64 ((IntKind.wrap .i64 (x44 + v67)) - v66), IntKind.wrap .i64 (x45 + 1), tk43, (by kernel_rfl), h, hB65, ff48, (at63.trans (by simp))⟩
                    · rw [if_f hc52] at h
                      refine AT_exit ?_
                      refine athen_e ?_
                      refine athen_e ?_
                      refine ablock_h ?_
                      refine athen_n ?_
                      refine AT_seq ?_
                      refine AT_region ?_
                      refine AOps_seg 2 0x100000000000000000000b000 (mkS 103 [(12, i64 v28), (13, i64 v29), (15, i64 x44), (96, bo v1)]) none [2, 3, 4, 5, 6, 7, 8] (by kernel_rfl) (by kernel_rfl) trivial ?_
                      refine AOps_caseS 96 v1 (by kernel_rfl) (mkS 103 [(12, i64 v28), (13, i64 v29), (15, i64 x44), (96, bo true)]) (mkS 103 [(12, i64 v28), (13, i64 v29), (15, i64 x44), (96, bo false)]) (by kernel_rfl) (by kernel_rfl) (fun hc70 => ?_) (fun hc70 => ?_)
                      · rw [if_t hc70] at h
                        refine AOps_seg 7 0x400 (mkS 103 [(10, bo (x44 == (IntKind.wrap .i64 (v29 - v28))))]) none [] (by kernel_rfl) (by kernel_rfl) trivial ?_
                        refine AOps_end ?_
                        refine athen_n ?_
                        refine AT_ret ?_
                        have e_ := Option.some.inj h
                        subst e_
                        exact ⟨[bo (x44 == (IntKind.wrap .i64 (v29 - v28)))], bo (x44 == (IntKind.wrap .i64 (v29 - v28))), S, (.of (by kernel_rfl)), D.le.refl _, hB47, rfl, rfl⟩
                      · rw [if_f hc70] at h
                        refine AOps_seg 7 0x400 (mkS 103 [(10, bo false)]) none [] (by kernel_rfl) (by kernel_rfl) trivial ?_
                        refine AOps_end ?_
                        refine athen_n ?_
                        refine AT_ret ?_
                        have e_ := Option.some.inj h
                        subst e_
                        exact ⟨[bo false], bo false, S, (.of (by kernel_rfl)), D.le.refl _, hB47, rfl, rfl⟩
mutual
def ref18_Cut.j1 : Nat → Int → Int → Int → (List Span) → Int → Option ((List Span))
  | 0, _, _, _, _, _ => none
  | k + 1, a1, a2, x72, x74, x83 => if (x74.length + 1) * 16 ≤ 140737488355328 then (ref18_Cut.l0 k a1 a2 x83 (x74 ++ [(⟨x72, x83⟩ : Span)])) else none
def ref18_Cut.l0 : Nat → Int → Int → Int → (List Span) → Option ((List Span))
  | 0, _, _, _, _ => none
  | k + 1, a1, a2, x72, x74 => if (decide (x72 < a1)) = true then (if (decide (a2 < (IntKind.wrap .i64 (a1 - x72)))) = true then (ref18_Cut.j1 k a1 a2 x72 x74 (IntKind.wrap .i64 (x72 + a2))) else (ref18_Cut.j1 k a1 a2 x72 x74 a1)) else (some x74)
end
def ref18_Cut.f (k : Nat) (a0 : Int) (a1 : Int) (a2 : Int) : Option ((List Span)) := if (decide (a0 < 0)) = true then (some ([] : List Span)) else (if (decide (a0 ≥ a1)) = true then (some ([] : List Span)) else (if (decide (a1 > 65536)) = true then (some ([] : List Span)) else (if (decide (a2 < 1)) = true then (some ([] : List Span)) else (ref18_Cut.l0 k a1 a2 a0 ([] : List Span)))))
theorem ref18_Cut.mono_l : ∀ k, (∀ y0 y1 y2 y3 y4, LeO (ref18_Cut.j1 k y0 y1 y2 y3 y4) (ref18_Cut.j1 (k + 1) y0 y1 y2 y3 y4)) ∧ (∀ y0 y1 y2 y3, LeO (ref18_Cut.l0 k y0 y1 y2 y3) (ref18_Cut.l0 (k + 1) y0 y1 y2 y3))
  | 0 => ⟨fun _ _ _ _ _ r h => (by simp only [ref18_Cut.j1] at h; cases h), fun _ _ _ _ r h => (by simp only [ref18_Cut.l0] at h; cases h)⟩
  | k + 1 => by
    have ih := ref18_Cut.mono_l k
    refine ⟨?_, ?_⟩
    · intro y0 y1 y2 y3 y4
      rw [ref18_Cut.j1, ref18_Cut.j1]
      repeat' first
        | exact LeO.refl _
        | exact LeO.none _
        | exact ih.1 _ _ _ _ _
        | exact ih.2 _ _ _ _
        | refine LeO.ite ?_ ?_
        | refine LeO.bind ?_ (fun _ => ?_)
    · intro y0 y1 y2 y3
      rw [ref18_Cut.l0, ref18_Cut.l0]
      repeat' first
        | exact LeO.refl _
        | exact LeO.none _
        | exact ih.1 _ _ _ _ _
        | exact ih.2 _ _ _ _
        | refine LeO.ite ?_ ?_
        | refine LeO.bind ?_ (fun _ => ?_)
theorem ref18_Cut.mono (k : Nat) (a0 : Int) (a1 : Int) (a2 : Int) : LeO (ref18_Cut.f k a0 a1 a2) (ref18_Cut.f (k + 1) a0 a1 a2) := by
  unfold ref18_Cut.f
  repeat' first
    | exact LeO.refl _
    | exact LeO.none _
    | exact (ref18_Cut.mono_l k).1 _ _ _ _ _
    | exact (ref18_Cut.mono_l k).2 _ _ _ _
    | refine LeO.ite ?_ ?_
    | refine LeO.bind ?_ (fun _ => ?_)
theorem ref18_Cut.ok (k : Nat) (a0 : Int) (a1 : Int) (a2 : Int) (S : Store) (r : (List Span)) (h : ref18_Cut.f k a0 a1 a2 = some r) : ACalls Tryz.prog 11 [i64 a0, i64 a1, i64 a2] S (RetO 2 (r.map Span.enc) S) := by
  unfold ref18_Cut.f at h
  refine acalls_of Tryz.func11 rfl ?_
  have hB : S.le S := Store.le.refl S
  refine AT_forget 0x7 (mkS 44 [(0, i64 a0), (1, i64 a1), (2, i64 a2)]) (by kernel_rfl) ?_
  refine AT_seq ?_
  refine AT_region ?_
  refine AOps_seg 1 0x7 (mkS 44 [(0, i64 a0), (1, i64 a1), (2, i64 a2)]) none [] (by kernel_rfl) (by kernel_rfl) trivial ?_
  refine AOps_end ?_
  refine athen_n ?_
  refine AT_seq ?_
  refine AT_seq ?_
  refine AT_region ?_
  refine AOps_seg 3 0x807 (mkS 44 [(0, i64 a0), (1, i64 a1), (2, i64 a2), (11, bo (decide (a0 < 0)))]) none [3, 4, 5, 6, 7, 8, 9, 10, 11, 12, 13, 14] (by kernel_rfl) (by kernel_rfl) trivial ?_
  refine AOps_caseS 11 (decide (a0 < 0)) (by kernel_rfl) (mkS 44 [(0, i64 a0), (1, i64 a1), (2, i64 a2), (11, bo true)]) (mkS 44 [(0, i64 a0), (1, i64 a1), (2, i64 a2), (11, bo false)]) (by kernel_rfl) (by kernel_rfl) (fun hc33 => ?_) (fun hc33 => ?_)
  · rw [if_t hc33] at h
    refine AOps_seg 12 0x800007 (mkS 44 [(0, i64 a0), (1, i64 a1), (2, i64 a2), (23, bo true)]) none [] (by kernel_rfl) (by kernel_rfl) trivial ?_
    refine AOps_end ?_
    refine athen_n ?_
    refine AT_cond_t (by kernel_rfl) ?_
    refine AT_seq ?_
    refine AT_region ?_
    refine AOps_seg 1 0x40 (mkS 44 [(6, nilS)]) none [] (by kernel_rfl) (by kernel_rfl) trivial ?_
    refine AOps_end ?_
    refine athen_n ?_
    refine AT_nilU 6 2 (fun tk_ => mkS 44 [(6, .sl 2 [] (some tk_))]) (by kernel_rfl) (fun tk_ => by kernel_rfl) (fun S35 t34 hf37 u36 => ?_)
    have ff38 := fresh_le hB hf37
    have at39 := u36.at_
    have hB40 := u36.le hB ff38
    refine AT_ret ?_
    refine athen_r ?_
    have e_ := Option.some.inj h
    subst e_
    exact ⟨[.sl 2 [] (some t34)], .sl 2 (([] : List Span).map Span.enc) (some t34), (Store.setTk S t34 (some ((([] : List Span).map Span.enc).length, 2))), (.of (by kernel_rfl)), D.le.refl _, (le_setTk hB40 (at39.trans (by simp))), t34, ff38, rfl, rfl⟩
  · rw [if_f hc33] at h
    refine AOps_seg 5 0x10007 (mkS 44 [(0, i64 a0), (1, i64 a1), (2, i64 a2), (16, bo (decide (a0 ≥ a1)))]) none [8, 9, 10, 11, 12, 13, 14] (by kernel_rfl) (by kernel_rfl) trivial ?_
    refine AOps_caseS 16 (decide (a0 ≥ a1)) (by kernel_rfl) (mkS 44 [(0, i64 a0), (1, i64 a1), (2, i64 a2), (16, bo true)]) (mkS 44 [(0, i64 a0), (1, i64 a1), (2, i64 a2), (16, bo false)]) (by kernel_rfl) (by kernel_rfl) (fun hc41 => ?_) (fun hc41 => ?_)
    · rw [if_t hc41] at h
      refine AOps_seg 7 0x800007 (mkS 44 [(0, i64 a0), (1, i64 a1), (2, i64 a2), (23, bo true)]) none [] (by kernel_rfl) (by kernel_rfl) trivial ?_
      refine AOps_end ?_
      refine athen_n ?_
      refine AT_cond_t (by kernel_rfl) ?_
      refine AT_seq ?_
      refine AT_region ?_
      refine AOps_seg 1 0x40 (mkS 44 [(6, nilS)]) none [] (by kernel_rfl) (by kernel_rfl) trivial ?_
      refine AOps_end ?_
      refine athen_n ?_
      refine AT_nilU 6 2 (fun tk_ => mkS 44 [(6, .sl 2 [] (some tk_))]) (by kernel_rfl) (fun tk_ => by kernel_rfl) (fun S43 t42 hf45 u44 => ?_)
      have ff46 := fresh_le hB hf45
      have at47 := u44.at_
      have hB48 := u44.le hB ff46
      refine AT_ret ?_
      refine athen_r ?_
      have e_ := Option.some.inj h
      subst e_
      exact ⟨[.sl 2 [] (some t42)], .sl 2 (([] : List Span).map Span.enc) (some t42), (Store.setTk S t42 (some ((([] : List Span).map Span.enc).length, 2))), (.of (by kernel_rfl)), D.le.refl _, (le_setTk hB48 (at47.trans (by simp))), t42, ff46, rfl, rfl⟩
    · rw [if_f hc41] at h
      refine AOps_seg 4 0x100007 (mkS 44 [(0, i64 a0), (1, i64 a1), (2, i64 a2), (20, bo (decide (a1 > 65536)))]) none [12, 13, 14] (by kernel_rfl) (by kernel_rfl) trivial ?_
      refine AOps_caseS 20 (decide (a1 > 65536)) (by kernel_rfl) (mkS 44 [(0, i64 a0), (1, i64 a1), (2, i64 a2), (20, bo true)]) (mkS 44 [(0, i64 a0), (1, i64 a1), (2, i64 a2), (20, bo false)]) (by kernel_rfl) (by kernel_rfl) (fun hc49 => ?_) (fun hc49 => ?_)
      · rw [if_t hc49] at h
        refine AOps_seg 3 0x800007 (mkS 44 [(0, i64 a0), (1, i64 a1), (2, i64 a2), (23, bo true)]) none [] (by kernel_rfl) (by kernel_rfl) trivial ?_
        refine AOps_end ?_
        refine athen_n ?_
        refine AT_cond_t (by kernel_rfl) ?_
        refine AT_seq ?_
        refine AT_region ?_
        refine AOps_seg 1 0x40 (mkS 44 [(6, nilS)]) none [] (by kernel_rfl) (by kernel_rfl) trivial ?_
        refine AOps_end ?_
        refine athen_n ?_
        refine AT_nilU 6 2 (fun tk_ => mkS 44 [(6, .sl 2 [] (some tk_))]) (by kernel_rfl) (fun tk_ => by kernel_rfl) (fun S51 t50 hf53 u52 => ?_)
        have ff54 := fresh_le hB hf53
        have at55 := u52.at_
        have hB56 := u52.le hB ff54
        refine AT_ret ?_
        refine athen_r ?_
        have e_ := Option.some.inj h
        subst e_
        exact ⟨[.sl 2 [] (some t50)], .sl 2 (([] : List Span).map Span.enc) (some t50), (Store.setTk S t50 (some ((([] : List Span).map Span.enc).length, 2))), (.of (by kernel_rfl)), D.le.refl _, (le_setTk hB56 (at55.trans (by simp))), t50, ff54, rfl, rfl⟩
      · rw [if_f hc49] at h
        refine AOps_seg 3 0x800007 (mkS 44 [(0, i64 a0), (1, i64 a1), (2, i64 a2), (23, bo (decide (a2 < 1)))]) none [] (by kernel_rfl) (by kernel_rfl) trivial ?_
        refine AOps_end ?_
        refine athen_n ?_
        refine AT_condS (decide (a2 < 1)) (by kernel_rfl) (fun hc57 => ?_) (fun hc57 => ?_)
        · rw [if_t hc57] at h
          refine AT_seq ?_
          refine AT_region ?_
          refine AOps_seg 1 0x40 (mkS 44 [(6, nilS)]) none [] (by kernel_rfl) (by kernel_rfl) trivial ?_
          refine AOps_end ?_
          refine athen_n ?_
          refine AT_nilU 6 2 (fun tk_ => mkS 44 [(6, .sl 2 [] (some tk_))]) (by kernel_rfl) (fun tk_ => by kernel_rfl) (fun S59 t58 hf61 u60 => ?_)
          have ff62 := fresh_le hB hf61
          have at63 := u60.at_
          have hB64 := u60.le hB ff62
          refine AT_ret ?_
          refine athen_r ?_
          have e_ := Option.some.inj h
          subst e_
          exact ⟨[.sl 2 [] (some t58)], .sl 2 (([] : List Span).map Span.enc) (some t58), (Store.setTk S t58 (some ((([] : List Span).map Span.enc).length, 2))), (.of (by kernel_rfl)), D.le.refl _, (le_setTk hB64 (at63.trans (by simp))), t58, ff62, rfl, rfl⟩
        · rw [if_f hc57] at h
          refine AT_skip ?_
          refine athen_n ?_
          refine AT_seq ?_
          refine AT_region ?_
          refine AOps_seg 1 0x87 (mkS 44 [(0, i64 a0), (1, i64 a1), (2, i64 a2), (7, nilS)]) none [] (by kernel_rfl) (by kernel_rfl) trivial ?_
          refine AOps_end ?_
          refine athen_n ?_
          refine AT_seq ?_
          refine AT_block ?_
          refine AT_nilU 7 2 (fun tk_ => mkS 44 [(0, i64 a0), (1, i64 a1), (2, i64 a2), (7, .sl 2 [] (some tk_))]) (by kernel_rfl) (fun tk_ => by kernel_rfl) (fun S66 t65 hf68 u67 => ?_)
          have ff69 := fresh_le hB hf68
          have at70 := u67.at_
          have hB71 := u67.le hB ff69
          refine AT_loopM 0x87 (fun k_ sl_ S75 => ∃ (x72 : Int), ∃ (x74 : (List Span)), ∃ (tk73 : Nat), sl_ = mkS 44 [(0, i64 x72), (1, i64 a1), (2, i64 a2), (7, .sl 2 (x74.map Span.enc) (some tk73))] ∧ ref18_Cut.l0 k_ a1 a2 x72 x74 = some r ∧ S75.le S ∧ S.tk tk73 = none ∧ S75.tk tk73 = some ((x74).length, 2)) k ⟨a0, ([] : List Span), t65, (by kernel_rfl), h, hB71, ff69, (at70.trans (by simp))⟩ ?_
          rintro k' sl_ S75 ⟨x72, x74, tk73, rfl, h, hB76, ff77, at78⟩
          cases k' with
          | zero => cases h
          | succ k79 =>
            rw [ref18_Cut.l0] at h
            refine AT_seq ?_
            refine AT_seq ?_
            refine AT_region ?_
            refine AOps_seg 3 0x4000087 (mkS 44 [(0, i64 x72), (1, i64 a1), (2, i64 a2), (7, .sl 2 (x74.map Span.enc) (some tk73)), (26, bo (decide (x72 < a1)))]) none [] (by kernel_rfl) (by kernel_rfl) trivial ?_
            refine AOps_end ?_
            refine athen_n ?_
            refine AT_condS (decide (x72 < a1)) (by kernel_rfl) (fun hc80 => ?_) (fun hc80 => ?_)
            · rw [if_t hc80] at h
              refine AT_skip ?_
              refine athen_n ?_
              refine AT_block ?_
              refine AT_seq ?_
              refine AT_region ?_
              refine AOps_seg 2 0x187 (mkS 44 [(0, i64 x72), (1, i64 a1), (2, i64 a2), (7, .sl 2 (x74.map Span.enc) (some tk73)), (8, i64 a1)]) none [] (by kernel_rfl) (by kernel_rfl) trivial ?_
              refine AOps_end ?_
              refine athen_n ?_
              refine AT_cutM 0x187 (fun sl_ S84 => ∃ (x83 : Int), ∃ (tk82 : Nat), sl_ = mkS 44 [(0, i64 x72), (1, i64 a1), (2, i64 a2), (7, .sl 2 (x74.map Span.enc) (some tk82)), (8, i64 x83)] ∧ ref18_Cut.j1 k79 a1 a2 x72 x74 x83 = some r ∧ S84.le S ∧ S.tk tk82 = none ∧ S84.tk tk82 = some ((x74).length, 2)) ?_ ?_
              · refine AT_seq ?_
                refine AT_region ?_
                refine AOps_seg 5 0x100000187 (mkS 44 [(0, i64 x72), (1, i64 a1), (2, i64 a2), (7, .sl 2 (x74.map Span.enc) (some tk73)), (8, i64 a1), (32, bo (decide (a2 < (IntKind.wrap .i64 (a1 - x72)))))]) none [] (by kernel_rfl) (by kernel_rfl) trivial ?_
                refine AOps_end ?_
                refine athen_n ?_
                refine AT_condS (decide (a2 < (IntKind.wrap .i64 (a1 - x72)))) (by kernel_rfl) (fun hc88 => ?_) (fun hc88 => ?_)
                · rw [if_t hc88] at h
                  refine AT_region ?_
                  refine AOps_seg 4 0x187 (mkS 44 [(0, i64 x72), (1, i64 a1), (2, i64 a2), (7, .sl 2 (x74.map Span.enc) (some tk73)), (8, i64 (IntKind.wrap .i64 (x72 + a2)))]) none [] (by kernel_rfl) (by kernel_rfl) trivial ?_
                  refine AOps_end ?_
                  refine athen_n ?_
                  exact ⟨IntKind.wrap .i64 (x72 + a2), tk73, (by kernel_rfl), h, hB76, ff77, (at78.trans (by simp))⟩
                · rw [if_f hc88] at h
                  refine AT_skip ?_
                  refine athen_n ?_
                  exact ⟨a1, tk73, (by kernel_rfl), h, hB76, ff77, (at78.trans (by simp))⟩
              · clear h
                rintro sl_ S84 ⟨x83, tk82, rfl, h, hB85, ff86, at87⟩
                cases k79 with
                | zero => cases h
                | succ k89 =>
                  rw [ref18_Cut.j1] at h
                  refine AT_seq ?_
                  refine AT_region ?_
                  refine AOps_seg 4 0x9000000106 (mkS 44 [(1, i64 a1), (2, i64 a2), (8, i64 x83), (36, .sl 2 (x74.map Span.enc) (some tk82)), (39, .ag [i64 x72, i64 x83])]) none [4, 5, 6] (by kernel_rfl) (by kernel_rfl) trivial ?_
                  refine AOps_litS (sz := 2) (es := [[i64 x72, i64 x83]]) (tl_get rfl) rfl rfl rfl (by kernel_rfl) (by decide) (by kernel_rfl) (by decide) (by kernel_rfl) (by kernel_rfl) (by intro x hx; simp only [List.mem_cons, List.not_mem_nil, or_false] at hx; rcases hx with rfl <;> rfl) ?_
                  refine AOps_forget 0x11000000106 (mkS 44 [(1, i64 a1), (2, i64 a2), (8, i64 x83), (36, .sl 2 (x74.map Span.enc) (some tk82)), (40, .sl 2 [[i64 x72, i64 x83]] none)]) (by kernel_rfl) ?_
                  by_cases hl93 : (x74.length + 1) * 16 ≤ 140737488355328
                  rotate_left
                  · rw [if_neg hl93] at h; cases h
                  rw [if_pos hl93] at h
                  refine AOps_appendU (bytes := 16) (es := x74.map Span.enc) (xs := [[i64 x72, i64 x83]]) (tl := none) x74.length (tl_get rfl) rfl rfl rfl (by kernel_rfl) rfl (at87.trans (by simp)) (by simp only [List.length_map, List.length_nil]) (.inl ⟨38, by kernel_rfl, rfl⟩) (by simp only [List.length_map, bytesD_len, List.length_cons, List.length_nil]; omega) (by simp only [List.length_map, bytesD_len, List.length_cons, List.length_nil]; omega) (fun S90 u91 => ?_)
                  have at94 := u91.at_
                  have hB95 := u91.le hB85 ff86
                  refine AOps_forget 0x20000000106 (mkS 44 [(1, i64 a1), (2, i64 a2), (8, i64 x83), (41, .sl 2 ((x74.map Span.enc) ++ [[i64 x72, i64 x83]]) (some tk82))]) (by kernel_rfl) ?_
                  refine AOps_to (mkS 44 [(1, i64 a1), (2, i64 a2), (8, i64 x83), (41, .sl 2 ((x74 ++ [(⟨x72, x83⟩ : Span)]).map Span.enc) (some tk82))]) (by rw [List.map_append]; rfl) ?_
                  refine AOps_seg 1 0x186 (mkS 44 [(1, i64 a1), (2, i64 a2), (7, .sl 2 ((x74 ++ [(⟨x72, x83⟩ : Span)]).map Span.enc) (some tk82)), (8, i64 x83)]) none [] (by kernel_rfl) (by kernel_rfl) trivial ?_
                  refine AOps_end ?_
                  refine athen_n ?_
                  refine AT_region ?_
                  refine AOps_seg 2 0x87 (mkS 44 [(0, i64 x83), (1, i64 a1), (2, i64 a2), (7, .sl 2 ((x74 ++ [(⟨x72, x83⟩ : Span)]).map Span.enc) (some tk82))]) none [] (by kernel_rfl) (by kernel_rfl) trivial ?_
                  refine AOps_end ?_
                  refine ablock_n ?_
                  refine athen_n ?_
                  exact ⟨k89, (by omega), x83, x74 ++ [(⟨x72, x83⟩ : Span)], tk82, (by kernel_rfl), h, hB95, ff86, (at94.trans (by simp))⟩
            · rw [if_f hc80] at h
              refine AT_exit ?_
              refine athen_e ?_
              refine athen_e ?_
              refine ablock_h ?_
              refine athen_n ?_
              refine AT_seq ?_
              refine AT_region ?_
              refine AOps_seg 2 0x40 (mkS 44 [(6, .sl 2 (x74.map Span.enc) (some tk73))]) none [] (by kernel_rfl) (by kernel_rfl) trivial ?_
              refine AOps_end ?_
              refine athen_n ?_
              refine AT_ret ?_
              have e_ := Option.some.inj h
              subst e_
              exact ⟨[.sl 2 (x74.map Span.enc) (some tk73)], .sl 2 (x74.map Span.enc) (some tk73), (Store.setTk S tk73 (some ((x74.map Span.enc).length, 2))), (.of (by kernel_rfl)), D.le.refl _, (le_setTk hB76 (at78.trans (by simp))), tk73, ff77, rfl, rfl⟩
def ref18_Over.l0 : Nat → (List Span) → Int → Int → Int → Int → Int → Option (Int × Int)
  | 0, _, _, _, _, _, _ => none
  | k + 1, a0, a1, a2, x1, x2, x3 => if (decide (x3 < (a0.length : Int))) = true then (if 0 ≤ x3 ∧ x3 < (a0.length : Int) then (if 0 ≤ x3 ∧ x3 < (a0.length : Int) then (if (decide ((if a1 > (rd a0 x3 Span.zero).From then a1 else (rd a0 x3 Span.zero).From) < (if a2 < (rd a0 x3 Span.zero).To then a2 else (rd a0 x3 Span.zero).To))) = true then (if (decide (x1 < 0)) = true then (ref18_Over.l0 k a0 a1 a2 x3 (IntKind.wrap .i64 (x3 + 1)) (IntKind.wrap .i64 (x3 + 1))) else (ref18_Over.l0 k a0 a1 a2 x1 (IntKind.wrap .i64 (x3 + 1)) (IntKind.wrap .i64 (x3 + 1)))) else (ref18_Over.l0 k a0 a1 a2 x1 x2 (IntKind.wrap .i64 (x3 + 1)))) else none) else none) else (if (decide (x1 < 0)) = true then (some (0, 0)) else (some (x1, x2)))
def ref18_Over.f (k : Nat) (a0 : (List Span)) (a1 : Int) (a2 : Int) : Option (Int × Int) := ref18_Over.l0 k a0 a1 a2 (-1) 0 0
theorem ref18_Over.mono_l : ∀ k, (∀ y0 y1 y2 y3 y4 y5, LeO (ref18_Over.l0 k y0 y1 y2 y3 y4 y5) (ref18_Over.l0 (k + 1) y0 y1 y2 y3 y4 y5))
  | 0 => fun _ _ _ _ _ _ r h => (by simp only [ref18_Over.l0] at h; cases h)
  | k + 1 => by
    have ih := ref18_Over.mono_l k
    · intro y0 y1 y2 y3 y4 y5
      rw [ref18_Over.l0, ref18_Over.l0]
      repeat' first
        | exact LeO.refl _
        | exact LeO.none _
        | exact ih _ _ _ _ _ _
        | refine LeO.ite ?_ ?_
        | refine LeO.bind ?_ (fun _ => ?_)
theorem ref18_Over.mono (k : Nat) (a0 : (List Span)) (a1 : Int) (a2 : Int) : LeO (ref18_Over.f k a0 a1 a2) (ref18_Over.f (k + 1) a0 a1 a2) := by
  unfold ref18_Over.f
  repeat' first
    | exact LeO.refl _
    | exact LeO.none _
    | exact (ref18_Over.mono_l k) _ _ _ _ _ _
    | refine LeO.ite ?_ ?_
    | refine LeO.bind ?_ (fun _ => ?_)
theorem ref18_Over.ok (k : Nat) (a0 : (List Span)) (a1 : Int) (a2 : Int) (S : Store) (r0 : Int) (r1 : Int) (h : ref18_Over.f k a0 a1 a2 = some (r0, r1)) : ACalls Tryz.prog 13 [.sl 2 (a0.map Span.enc) none, i64 a1, i64 a2] S (RetL [.p (i64 r0), .p (i64 r1)] S) := by
  unfold ref18_Over.f at h
  refine acalls_of Tryz.func13 rfl ?_
  have hB : S.le S := Store.le.refl S
  refine AT_forget 0x7 (mkS 41 [(0, .sl 2 (a0.map Span.enc) none), (1, i64 a1), (2, i64 a2)]) (by kernel_rfl) ?_
  refine AT_seq ?_
  refine AT_region ?_
  refine AOps_seg 2 0x7 (mkS 41 [(0, .sl 2 (a0.map Span.enc) none), (1, i64 a1), (2, i64 a2)]) none [] (by kernel_rfl) (by kernel_rfl) trivial ?_
  refine AOps_end ?_
  refine athen_n ?_
  refine AT_seq ?_
  refine AT_region ?_
  refine AOps_seg 1 0x107 (mkS 41 [(0, .sl 2 (a0.map Span.enc) none), (1, i64 a1), (2, i64 a2), (8, i64 (-1))]) none [] (by kernel_rfl) (by kernel_rfl) trivial ?_
  refine AOps_end ?_
  refine athen_n ?_
  refine AT_seq ?_
  refine AT_region ?_
  refine AOps_seg 1 0x307 (mkS 41 [(0, .sl 2 (a0.map Span.enc) none), (1, i64 a1), (2, i64 a2), (8, i64 (-1)), (9, i64 0)]) none [] (by kernel_rfl) (by kernel_rfl) trivial ?_
  refine AOps_end ?_
  refine athen_n ?_
  refine AT_seq ?_
  refine AT_seq ?_
  refine AT_region ?_
  refine AOps_seg 1 0x707 (mkS 41 [(0, .sl 2 (a0.map Span.enc) none), (1, i64 a1), (2, i64 a2), (8, i64 (-1)), (9, i64 0), (10, i64 0)]) none [] (by kernel_rfl) (by kernel_rfl) trivial ?_
  refine AOps_end ?_
  refine athen_n ?_
  refine AT_block ?_
  refine AT_loopM 0x707 (fun k_ sl_ S4 => ∃ (x1 : Int), ∃ (x2 : Int), ∃ (x3 : Int), sl_ = mkS 41 [(0, .sl 2 (a0.map Span.enc) none), (1, i64 a1), (2, i64 a2), (8, i64 x1), (9, i64 x2), (10, i64 x3)] ∧ ref18_Over.l0 k_ a0 a1 a2 x1 x2 x3 = some (r0, r1) ∧ S4.le S) k ⟨(-1), 0, 0, (by kernel_rfl), h, hB⟩ ?_
  rintro k' sl_ S4 ⟨x1, x2, x3, rfl, h, hB5⟩
  cases k' with
  | zero => cases h
  | succ k6 =>
    rw [ref18_Over.l0] at h
    refine AT_seq ?_
    refine AT_seq ?_
    refine AT_region ?_
    refine AOps_seg 3 0x2f07 (mkS 41 [(0, .sl 2 (a0.map Span.enc) none), (1, i64 a1), (2, i64 a2), (8, i64 x1), (9, i64 x2), (10, i64 x3), (11, i64 x3), (13, i64 ((a0.map Span.enc).length : Int))]) none [3] (by kernel_rfl) (by kernel_rfl) trivial ?_
    refine AOps_to (mkS 41 [(0, .sl 2 (a0.map Span.enc) none), (1, i64 a1), (2, i64 a2), (8, i64 x1), (9, i64 x2), (10, i64 x3), (11, i64 x3), (13, i64 (a0.length : Int))]) (by rw [List.length_map]) ?_
    refine AOps_seg 1 0x4707 (mkS 41 [(0, .sl 2 (a0.map Span.enc) none), (1, i64 a1), (2, i64 a2), (8, i64 x1), (9, i64 x2), (10, i64 x3), (14, bo (decide (x3 < (a0.length : Int))))]) none [] (by kernel_rfl) (by kernel_rfl) trivial ?_
    refine AOps_end ?_
    refine athen_n ?_
    refine AT_condS (decide (x3 < (a0.length : Int))) (by kernel_rfl) (fun hc8 => ?_) (fun hc8 => ?_)
    · rw [if_t hc8] at h
      refine AT_skip ?_
      refine athen_n ?_
      refine AT_seq ?_
      refine AT_block ?_
      refine AT_seq ?_
      refine AT_draw [] (by kernel_rfl) ?_
      refine AAny_seg 15 [] 0xfffe0707 (mkS 41 [(0, .sl 2 (a0.map Span.enc) none), (1, i64 a1), (2, i64 a2), (8, i64 x1), (9, i64 x2), (10, i64 x3)]) none #[false, false, false, false, false, false, false, false, false, false, false, false, false, false, false] (by kernel_rfl) trivial (by kernel_rfl) ?_
      by_cases hi9 : 0 ≤ x3 ∧ x3 < (a0.length : Int)
      rotate_left
      · rw [if_neg hi9] at h; cases h
      rw [if_pos hi9] at h
      refine AAny_seg 12 [0, 1, 2] 0xfff80707 (mkS 41 [(0, .sl 2 (a0.map Span.enc) none), (1, i64 a1), (2, i64 a2), (8, i64 x1), (9, i64 x2), (10, i64 x3), (19, .pt ((a0.map Span.enc).getD (x3 : Int).toNat []))]) (some (0 ≤ x3 ∧ x3 < ((a0.map Span.enc).length : Int))) #[true, true, true, false, false, false, false, false, false, false, false, false, false, false, false] (by kernel_rfl) (idx_ok hi9) (by kernel_rfl) ?_
      refine AAny_to (mkS 41 [(0, .sl 2 (a0.map Span.enc) none), (1, i64 a1), (2, i64 a2), (8, i64 x1), (9, i64 x2), (10, i64 x3), (19, .pt (Span.enc (rd a0 x3 Span.zero)))]) (by rw [pt_rd Span.enc a0 x3 Span.zero hi9.1 hi9.2]) ?_
      by_cases hi10 : 0 ≤ x3 ∧ x3 < (a0.length : Int)
      rotate_left
      · rw [if_neg hi10] at h; cases h
      rw [if_pos hi10] at h
      refine AAny_seg 5 [3, 4, 5, 6, 7, 8, 9] 0xfc800707 (mkS 41 [(0, .sl 2 (a0.map Span.enc) none), (1, i64 a1), (2, i64 a2), (8, i64 x1), (9, i64 x2), (10, i64 x3), (23, i64 (if a1 > (rd a0 x3 Span.zero).From then a1 else (rd a0 x3 Span.zero).From)), (26, .pt ((a0.map Span.enc).getD (x3 : Int).toNat []))]) (some (0 ≤ x3 ∧ x3 < ((a0.map Span.enc).length : Int))) #[true, true, true, true, true, true, true, true, true, true, false, false, false, false, false] (by kernel_rfl) (idx_ok hi10) (by kernel_rfl) ?_
      refine AAny_to (mkS 41 [(0, .sl 2 (a0.map Span.enc) none), (1, i64 a1), (2, i64 a2), (8, i64 x1), (9, i64 x2), (10, i64 x3), (23, i64 (if a1 > (rd a0 x3 Span.zero).From then a1 else (rd a0 x3 Span.zero).From)), (26, .pt (Span.enc (rd a0 x3 Span.zero)))]) (by rw [pt_rd Span.enc a0 x3 Span.zero hi10.1 hi10.2]) ?_
      refine AAny_seg 0 [10, 11, 12, 13, 14] 0x80000707 (mkS 41 [(0, .sl 2 (a0.map Span.enc) none), (1, i64 a1), (2, i64 a2), (8, i64 x1), (9, i64 x2), (10, i64 x3), (31, bo (decide ((if a1 > (rd a0 x3 Span.zero).From then a1 else (rd a0 x3 Span.zero).From) < (if a2 < (rd a0 x3 Span.zero).To then a2 else (rd a0 x3 Span.zero).To))))]) none #[true, true, true, true, true, true, true, true, true, true, true, true, true, true, true] (by kernel_rfl) trivial (by kernel_rfl) ?_
      refine AAny_end (by kernel_rfl) ?_
      refine athen_n ?_
      refine AT_condS (decide ((if a1 > (rd a0 x3 Span.zero).From then a1 else (rd a0 x3 Span.zero).From) < (if a2 < (rd a0 x3 Span.zero).To then a2 else (rd a0 x3 Span.zero).To))) (by kernel_rfl) (fun hc11 => ?_) (fun hc11 => ?_)
      · rw [if_t hc11] at h
        refine AT_seq ?_
        refine AT_seq ?_
        refine AT_region ?_
        refine AOps_seg 2 0x200000507 (mkS 41 [(0, .sl 2 (a0.map Span.enc) none), (1, i64 a1), (2, i64 a2), (8, i64 x1), (10, i64 x3), (33, bo (decide (x1 < 0)))]) none [] (by kernel_rfl) (by kernel_rfl) trivial ?_
        refine AOps_end ?_
        refine athen_n ?_
        refine AT_condS (decide (x1 < 0)) (by kernel_rfl) (fun hc12 => ?_) (fun hc12 => ?_)
        · rw [if_t hc12] at h
          refine AT_region ?_
          refine AOps_seg 2 0x507 (mkS 41 [(0, .sl 2 (a0.map Span.enc) none), (1, i64 a1), (2, i64 a2), (8, i64 x3), (10, i64 x3)]) none [] (by kernel_rfl) (by kernel_rfl) trivial ?_
          refine AOps_end ?_
          refine athen_n ?_
          refine AT_region ?_
          refine AOps_seg 3 0x707 (mkS 41 [(0, .sl 2 (a0.map Span.enc) none), (1, i64 a1), (2, i64 a2), (8, i64 x3), (9, i64 (IntKind.wrap .i64 (x3 + 1))), (10, i64 x3)]) none [] (by kernel_rfl) (by kernel_rfl) trivial ?_
          refine AOps_end ?_
          refine ablock_n ?_
          refine athen_n ?_
          refine AT_region ?_
          refine AOps_seg 3 0x707 (mkS 41 [(0, .sl 2 (a0.map Span.enc) none), (1, i64 a1), (2, i64 a2), (8, i64 x3), (9, i64 (IntKind.wrap .i64 (x3 + 1))), (10, i64 (IntKind.wrap .i64 (x3 + 1)))]) none [] (by kernel_rfl) (by kernel_rfl) trivial ?_
          refine AOps_end ?_
          refine athen_n ?_
          exact ⟨k6, (by omega), x3, IntKind.wrap .i64 (x3 + 1), IntKind.wrap .i64 (x3 + 1), (by kernel_rfl), h, hB5⟩
        · rw [if_f hc12] at h
          refine AT_skip ?_
          refine athen_n ?_
          refine AT_region ?_
          refine AOps_seg 3 0x707 (mkS 41 [(0, .sl 2 (a0.map Span.enc) none), (1, i64 a1), (2, i64 a2), (8, i64 x1), (9, i64 (IntKind.wrap .i64 (x3 + 1))), (10, i64 x3)]) none [] (by kernel_rfl) (by kernel_rfl) trivial ?_
          refine AOps_end ?_
          refine ablock_n ?_
          refine athen_n ?_
          refine AT_region ?_
          refine AOps_seg 3 0x707 (mkS 41 [(0, .sl 2 (a0.map Span.enc) none), (1, i64 a1), (2, i64 a2), (8, i64 x1), (9, i64 (IntKind.wrap .i64 (x3 + 1))), (10, i64 (IntKind.wrap .i64 (x3 + 1)))]) none [] (by kernel_rfl) (by kernel_rfl) trivial ?_
          refine AOps_end ?_
          refine athen_n ?_
          exact ⟨k6, (by omega), x1, IntKind.wrap .i64 (x3 + 1), IntKind.wrap .i64 (x3 + 1), (by kernel_rfl), h, hB5⟩
      · rw [if_f hc11] at h
        refine AT_skip ?_
        refine ablock_n ?_
        refine athen_n ?_
        refine AT_region ?_
        refine AOps_seg 3 0x707 (mkS 41 [(0, .sl 2 (a0.map Span.enc) none), (1, i64 a1), (2, i64 a2), (8, i64 x1), (9, i64 x2), (10, i64 (IntKind.wrap .i64 (x3 + 1)))]) none [] (by kernel_rfl) (by kernel_rfl) trivial ?_
        refine AOps_end ?_
        refine athen_n ?_
        exact ⟨k6, (by omega), x1, x2, IntKind.wrap .i64 (x3 + 1), (by kernel_rfl), h, hB5⟩
    · rw [if_f hc8] at h
      refine AT_exit ?_
      refine athen_e ?_
      refine athen_e ?_
      refine ablock_h ?_
      refine athen_n ?_
      refine AT_seq ?_
      refine AT_seq ?_
      refine AT_region ?_
      refine AOps_seg 2 0x4000000300 (mkS 41 [(8, i64 x1), (9, i64 x2), (38, bo (decide (x1 < 0)))]) none [] (by kernel_rfl) (by kernel_rfl) trivial ?_
      refine AOps_end ?_
      refine athen_n ?_
      refine AT_condS (decide (x1 < 0)) (by kernel_rfl) (fun hc13 => ?_) (fun hc13 => ?_)
      · rw [if_t hc13] at h
        refine AT_seq ?_
        refine AT_region ?_
        refine AOps_seg 2 0xc0 (mkS 41 [(6, i64 0), (7, i64 0)]) none [] (by kernel_rfl) (by kernel_rfl) trivial ?_
        refine AOps_end ?_
        refine athen_n ?_
        refine AT_ret ?_
        refine athen_r ?_
        have e0_ : 0 = r0 := congrArg (fun p_ => p_.1) (Option.some.inj h)
        have e1_ : 0 = r1 := congrArg (fun p_ => p_.2) (Option.some.inj h)
        subst e0_
        subst e1_
        exact ⟨[i64 0, i64 0], .tup [i64 0, i64 0], S, (.of (by kernel_rfl)), D.le.refl _, hB5, _, rfl, ⟨_, rfl, ⟨_, rfl, ⟨rfl, rfl⟩⟩⟩⟩
      · rw [if_f hc13] at h
        refine AT_skip ?_
        refine athen_n ?_
        refine AT_seq ?_
        refine AT_region ?_
        refine AOps_seg 4 0xc0 (mkS 41 [(6, i64 x1), (7, i64 x2)]) none [] (by kernel_rfl) (by kernel_rfl) trivial ?_
        refine AOps_end ?_
        refine athen_n ?_
        refine AT_ret ?_
        have e0_ : x1 = r0 := congrArg (fun p_ => p_.1) (Option.some.inj h)
        have e1_ : x2 = r1 := congrArg (fun p_ => p_.2) (Option.some.inj h)
        subst e0_
        subst e1_
        exact ⟨[i64 x1, i64 x2], .tup [i64 x1, i64 x2], S, (.of (by kernel_rfl)), D.le.refl _, hB5, _, rfl, ⟨_, rfl, ⟨_, rfl, ⟨rfl, rfl⟩⟩⟩⟩
end Go.Proofs.YtjapfalijpfmpaaGreatDoor.Abs
