/- What functions of the program compute, each with the proof that it does (printed by wip/gen/all.py). -/
import Derived.Test.YtjapfalijpfmpaaGreatDoorU2
import Derived.KernelRfl
namespace Go.Proofs.YtjapfalijpfmpaaGreatDoor.Abs
open Go
set_option maxRecDepth 100000
mutual
def law18_LayoutOver.j1 : Nat → Int → Int → Int → Bool → (List Span) → Int → Int → Int → Bool → Option (Bool)
  | 0, _, _, _, _, _, _, _, _, _ => none
  | k + 1, a0, a2, a3, v1, v6, v15, v16, x28, x41 => if (decide (x28 ≥ v15)) = true then (if (!(x41 == (decide (x28 < v16)))) = true then (some false) else (law18_LayoutOver.l0 k a0 a2 a3 v1 v6 v15 v16 (IntKind.wrap .i64 (x28 + 1)))) else (if (!(x41 == false)) = true then (some false) else (law18_LayoutOver.l0 k a0 a2 a3 v1 v6 v15 v16 (IntKind.wrap .i64 (x28 + 1))))
def law18_LayoutOver.j2 : Nat → Bool → Int → Int → Option (Bool)
  | 0, _, _, _ => none
  | k + 1, v1, v15, v16 => if v1 = true then (if (decide (v15 < v16)) = true then (some true) else (if (v15 == 0) = true then (some (v16 == 0)) else (some false))) else (some false)
def law18_LayoutOver.l0 : Nat → Int → Int → Int → Bool → (List Span) → Int → Int → Int → Option (Bool)
  | 0, _, _, _, _, _, _, _, _ => none
  | k + 1, a0, a2, a3, v1, v6, v15, v16, x28 => if (decide (x28 < (v6.length : Int))) = true then (if 0 ≤ x28 ∧ x28 < (v6.length : Int) then (if (decide (((rd v6 x28 Span.zero).From) < a3)) = true then (if 0 ≤ x28 ∧ x28 < (v6.length : Int) then (if (decide (((rd v6 x28 Span.zero).To) > a2)) = true then (law18_LayoutOver.j1 k a0 a2 a3 v1 v6 v15 v16 x28 (decide (a2 < a3))) else (law18_LayoutOver.j1 k a0 a2 a3 v1 v6 v15 v16 x28 false)) else none) else (law18_LayoutOver.j1 k a0 a2 a3 v1 v6 v15 v16 x28 false)) else none) else (if (decide (v15 < v16)) = true then (if 0 ≤ v15 ∧ v15 < (v6.length : Int) then (if (decide (((rd v6 v15 Span.zero).From) > a2)) = true then (if 0 ≤ v15 ∧ v15 < (v6.length : Int) then (if (((rd v6 v15 Span.zero).From) != 0) = true then (some false) else (if 0 ≤ (IntKind.wrap .i64 (v16 - 1)) ∧ (IntKind.wrap .i64 (v16 - 1)) < (v6.length : Int) then (if (decide (((rd v6 (IntKind.wrap .i64 (v16 - 1)) Span.zero).To) < a3)) = true then (if 0 ≤ (IntKind.wrap .i64 (v16 - 1)) ∧ (IntKind.wrap .i64 (v16 - 1)) < (v6.length : Int) then (if (((rd v6 (IntKind.wrap .i64 (v16 - 1)) Span.zero).To) != a0) = true then (some false) else (law18_LayoutOver.j2 k v1 v15 v16)) else none) else (law18_LayoutOver.j2 k v1 v15 v16)) else none)) else none) else (if 0 ≤ (IntKind.wrap .i64 (v16 - 1)) ∧ (IntKind.wrap .i64 (v16 - 1)) < (v6.length : Int) then (if (decide (((rd v6 (IntKind.wrap .i64 (v16 - 1)) Span.zero).To) < a3)) = true then (if 0 ≤ (IntKind.wrap .i64 (v16 - 1)) ∧ (IntKind.wrap .i64 (v16 - 1)) < (v6.length : Int) then (if (((rd v6 (IntKind.wrap .i64 (v16 - 1)) Span.zero).To) != a0) = true then (some false) else (law18_LayoutOver.j2 k v1 v15 v16)) else none) else (law18_LayoutOver.j2 k v1 v15 v16)) else none)) else none) else (law18_LayoutOver.j2 k v1 v15 v16))
end
def law18_LayoutOver.f (k : Nat) (a0 : Int) (a1 : Int) (a2 : Int) (a3 : Int) : Option (Bool) := (law18_small.f k ).bind fun v1 => ((law18_Few.f 0 a0 a1).bind fun v3 => (if (!v3) = true then (some v1) else ((layout_Cut.f k 0 a0 a1).bind fun v6 => ((layout_Over.f k v6 a2 a3).bind fun q_v15 => (if (decide (q_v15.1 < 0)) = true then (some false) else (if (decide (q_v15.1 > q_v15.2)) = true then (some false) else (if (decide (q_v15.2 > (v6.length : Int))) = true then (some false) else (law18_LayoutOver.l0 k a0 a2 a3 v1 v6 q_v15.1 q_v15.2 0))))))))
theorem law18_LayoutOver.mono_l : ∀ k, (∀ y0 y1 y2 y3 y4 y5 y6 y7 y8, LeO (law18_LayoutOver.j1 k y0 y1 y2 y3 y4 y5 y6 y7 y8) (law18_LayoutOver.j1 (k + 1) y0 y1 y2 y3 y4 y5 y6 y7 y8)) ∧ (∀ y0 y1 y2, LeO (law18_LayoutOver.j2 k y0 y1 y2) (law18_LayoutOver.j2 (k + 1) y0 y1 y2)) ∧ (∀ y0 y1 y2 y3 y4 y5 y6 y7, LeO (law18_LayoutOver.l0 k y0 y1 y2 y3 y4 y5 y6 y7) (law18_LayoutOver.l0 (k + 1) y0 y1 y2 y3 y4 y5 y6 y7))
  | 0 => ⟨fun _ _ _ _ _ _ _ _ _ r h => (by simp only [law18_LayoutOver.j1] at h; cases h), fun _ _ _ r h => (by simp only [law18_LayoutOver.j2] at h; cases h), fun _ _ _ _ _ _ _ _ r h => (by simp only [law18_LayoutOver.l0] at h; cases h)⟩
  | k + 1 => by
    have ih := law18_LayoutOver.mono_l k
    refine ⟨?_, ?_, ?_⟩
    · intro y0 y1 y2 y3 y4 y5 y6 y7 y8
      rw [law18_LayoutOver.j1, law18_LayoutOver.j1]
      repeat' first
        | exact LeO.refl _
        | exact LeO.none _
        | exact ih.1 _ _ _ _ _ _ _ _ _
        | exact ih.2.1 _ _ _
        | exact ih.2.2 _ _ _ _ _ _ _ _
        | exact layout_Cut.mono _ _ _ _
        | exact layout_Over.mono _ _ _ _
        | exact law18_small.mono _
        | refine LeO.ite ?_ ?_
        | refine LeO.bind ?_ (fun _ => ?_)
    · intro y0 y1 y2
      rw [law18_LayoutOver.j2, law18_LayoutOver.j2]
      repeat' first
        | exact LeO.refl _
        | exact LeO.none _
        | exact ih.1 _ _ _ _ _ _ _ _ _
        | exact ih.2.1 _ _ _
        | exact ih.2.2 _ _ _ _ _ _ _ _
        | exact layout_Cut.mono _ _ _ _
        | exact layout_Over.mono _ _ _ _
        | exact law18_small.mono _
        | refine LeO.ite ?_ ?_
        | refine LeO.bind ?_ (fun _ => ?_)
    · intro y0 y1 y2 y3 y4 y5 y6 y7
      rw [law18_LayoutOver.l0, law18_LayoutOver.l0]
      repeat' first
        | exact LeO.refl _
        | exact LeO.none _
        | exact ih.1 _ _ _ _ _ _ _ _ _
        | exact ih.2.1 _ _ _
        | exact ih.2.2 _ _ _ _ _ _ _ _
        | exact layout_Cut.mono _ _ _ _
        | exact layout_Over.mono _ _ _ _
        | exact law18_small.mono _
        | refine LeO.ite ?_ ?_
        | refine LeO.bind ?_ (fun _ => ?_)
theorem law18_LayoutOver.mono (k : Nat) (a0 : Int) (a1 : Int) (a2 : Int) (a3 : Int) : LeO (law18_LayoutOver.f k a0 a1 a2 a3) (law18_LayoutOver.f (k + 1) a0 a1 a2 a3) := by
  unfold law18_LayoutOver.f
  repeat' first
    | exact LeO.refl _
    | exact LeO.none _
    | exact (law18_LayoutOver.mono_l k).1 _ _ _ _ _ _ _ _ _
    | exact (law18_LayoutOver.mono_l k).2.1 _ _ _
    | exact (law18_LayoutOver.mono_l k).2.2 _ _ _ _ _ _ _ _
    | exact layout_Cut.mono _ _ _ _
    | exact layout_Over.mono _ _ _ _
    | exact law18_small.mono _
    | refine LeO.ite ?_ ?_
    | refine LeO.bind ?_ (fun _ => ?_)
theorem law18_LayoutOver.ok (k : Nat) (a0 : Int) (a1 : Int) (a2 : Int) (a3 : Int) (S : Store) (r : Bool) (h : law18_LayoutOver.f k a0 a1 a2 a3 = some r) : ACalls Tryz.prog 5 [i64 a0, i64 a1, i64 a2, i64 a3] S (Ret (bo r) S) := by
  unfold law18_LayoutOver.f at h
  refine acalls_of Tryz.func5 rfl ?_
  have hB : S.le S := Store.le.refl S
  refine AT_forget 0xf (mkS 137 [(0, i64 a0), (1, i64 a1), (2, i64 a2), (3, i64 a3)]) (by kernel_rfl) ?_
  refine AT_seq ?_
  refine AT_region ?_
  refine AOps_seg 1 0xf (mkS 137 [(0, i64 a0), (1, i64 a1), (2, i64 a2), (3, i64 a3)]) none [] (by kernel_rfl) (by kernel_rfl) trivial ?_
  refine AOps_end ?_
  refine athen_n ?_
  refine AT_seq ?_
  refine AT_region ?_
  obtain ⟨v1, ht2, h⟩ := Option.bind_eq_some_iff.1 h
  refine AOps_callR _ [] (tl_get rfl) rfl rfl rfl rfl Tryz.func8 (by decide) rfl ((.nil)) (law18_small.ok _  S _ ht2) ?_
  rintro _ _ ⟨rfl, e_⟩
  obtain rfl := e_.symm
  refine AOps_forget 0x1000f (mkS 137 [(0, i64 a0), (1, i64 a1), (2, i64 a2), (3, i64 a3), (16, bo v1)]) (by kernel_rfl) ?_
  refine AOps_seg 1 0x20f (mkS 137 [(0, i64 a0), (1, i64 a1), (2, i64 a2), (3, i64 a3), (9, bo v1)]) none [] (by kernel_rfl) (by kernel_rfl) trivial ?_
  refine AOps_end ?_
  refine athen_n ?_
  refine AT_seq ?_
  refine AT_region ?_
  refine AOps_seg 2 0x6020f (mkS 137 [(0, i64 a0), (1, i64 a1), (2, i64 a2), (3, i64 a3), (9, bo v1), (17, i64 a0), (18, i64 a1)]) none [2, 3] (by kernel_rfl) (by kernel_rfl) trivial ?_
  obtain ⟨v3, ht4, h⟩ := Option.bind_eq_some_iff.1 h
  refine AOps_callR _ [i64 0, i64 a0, i64 a1] (tl_get rfl) rfl rfl rfl rfl Tryz.func9 (by decide) rfl ((.cons (D.le.refl _) (.cons (D.le.refl _) (.cons (D.le.refl _) (.nil))))) (law18_Few.ok 0 a0 a1 S _ ht4) ?_
  rintro _ _ ⟨rfl, e_⟩
  obtain rfl := e_.symm
  refine AOps_forget 0x8020f (mkS 137 [(0, i64 a0), (1, i64 a1), (2, i64 a2), (3, i64 a3), (9, bo v1), (19, bo v3)]) (by kernel_rfl) ?_
  refine AOps_seg 1 0x60f (mkS 137 [(0, i64 a0), (1, i64 a1), (2, i64 a2), (3, i64 a3), (9, bo v1), (10, bo v3)]) none [] (by kernel_rfl) (by kernel_rfl) trivial ?_
  refine AOps_end ?_
  refine athen_n ?_
  refine AT_seq ?_
  refine AT_seq ?_
  refine AT_region ?_
  refine AOps_seg 2 0x20020f (mkS 137 [(0, i64 a0), (1, i64 a1), (2, i64 a2), (3, i64 a3), (9, bo v1), (21, bo (!v3))]) none [] (by kernel_rfl) (by kernel_rfl) trivial ?_
  refine AOps_end ?_
  refine athen_n ?_
  refine AT_condS (!v3) (by kernel_rfl) (fun hc5 => ?_) (fun hc5 => ?_)
  · rw [if_t hc5] at h
    refine AT_seq ?_
    refine AT_region ?_
    refine AOps_seg 2 0x100 (mkS 137 [(8, bo v1)]) none [] (by kernel_rfl) (by kernel_rfl) trivial ?_
    refine AOps_end ?_
    refine athen_n ?_
    refine AT_ret ?_
    refine athen_r ?_
    have e_ := Option.some.inj h
    subst e_
    exact ⟨[bo v1], bo v1, S, (.of (by kernel_rfl)), D.le.refl _, hB, rfl, rfl⟩
  · rw [if_f hc5] at h
    refine AT_skip ?_
    refine athen_n ?_
    refine AT_seq ?_
    refine AT_region ?_
    refine AOps_seg 2 0x180020d (mkS 137 [(0, i64 a0), (2, i64 a2), (3, i64 a3), (9, bo v1), (23, i64 a0), (24, i64 a1)]) none [2, 3] (by kernel_rfl) (by kernel_rfl) trivial ?_
    obtain ⟨v6, ht7, h⟩ := Option.bind_eq_some_iff.1 h
    refine AOps_callR _ [i64 0, i64 a0, i64 a1] (tl_get rfl) rfl rfl rfl rfl Tryz.func10 (by decide) rfl ((.cons (D.le.refl _) (.cons (D.le.refl _) (.cons (D.le.refl _) (.nil))))) (layout_Cut.ok _ 0 a0 a1 S _ ht7) ?_
    rintro _ S10 ⟨t8, hf9, rfl, e_⟩
    have u11 : Upd _ S10 t8 _ := e_ ▸ Upd.mk' _ _ _
    clear e_
    have ff12 := fresh_le hB hf9
    have at13 := u11.at_
    have hB14 := u11.le hB ff12
    refine AOps_forget 0x200020d (mkS 137 [(0, i64 a0), (2, i64 a2), (3, i64 a3), (9, bo v1), (25, .sl 2 (v6.map Span.enc) (some t8))]) (by kernel_rfl) ?_
    refine AOps_seg 1 0xa0d (mkS 137 [(0, i64 a0), (2, i64 a2), (3, i64 a3), (9, bo v1), (11, .sl 2 (v6.map Span.enc) (some t8))]) none [] (by kernel_rfl) (by kernel_rfl) trivial ?_
    refine AOps_end ?_
    refine athen_n ?_
    refine AT_seq ?_
    refine AT_region ?_
    refine AOps_seg 3 0x38000a0d (mkS 137 [(0, i64 a0), (2, i64 a2), (3, i64 a3), (9, bo v1), (11, .sl 2 (v6.map Span.enc) (some t8)), (27, .sl 2 (v6.map Span.enc) (some t8)), (28, i64 a2), (29, i64 a3)]) none [3, 4, 5, 6, 7, 8] (by kernel_rfl) (by kernel_rfl) trivial ?_
    obtain ⟨⟨v15, v16⟩, ht17, h⟩ := Option.bind_eq_some_iff.1 h
    simp only at h
    refine AOps_callR _ [.sl 2 (v6.map Span.enc) none, i64 a2, i64 a3] (tl_get rfl) rfl rfl rfl rfl Tryz.func12 (by decide) rfl ((.cons (sl_le) (.cons (D.le.refl _) (.cons (D.le.refl _) (.nil))))) (layout_Over.ok _ v6 a2 a3 S10 _ _ ht17) ?_
    rintro _ S18 ⟨_, rfl, ⟨_, rfl, ⟨_, rfl, ⟨rfl, e_⟩⟩⟩⟩
    obtain rfl := e_.symm
    refine AOps_forget 0x40000a0d (mkS 137 [(0, i64 a0), (2, i64 a2), (3, i64 a3), (9, bo v1), (11, .sl 2 (v6.map Span.enc) (some t8)), (30, .tup [i64 v15, i64 v16])]) (by kernel_rfl) ?_
    refine AOps_seg 5 0x3a0d (mkS 137 [(0, i64 a0), (2, i64 a2), (3, i64 a3), (9, bo v1), (11, .sl 2 (v6.map Span.enc) (some t8)), (12, i64 v15), (13, i64 v16)]) none [] (by kernel_rfl) (by kernel_rfl) trivial ?_
    refine AOps_end ?_
    refine athen_n ?_
    refine AT_seq ?_
    refine AT_seq ?_
    refine AT_region ?_
    refine AOps_seg 3 0x800003a0d (mkS 137 [(0, i64 a0), (2, i64 a2), (3, i64 a3), (9, bo v1), (11, .sl 2 (v6.map Span.enc) (some t8)), (12, i64 v15), (13, i64 v16), (35, bo (decide (v15 < 0)))]) none [3, 4, 5, 6, 7, 8, 9, 10, 11, 12] (by kernel_rfl) (by kernel_rfl) trivial ?_
    refine AOps_caseS 35 (decide (v15 < 0)) (by kernel_rfl) (mkS 137 [(0, i64 a0), (2, i64 a2), (3, i64 a3), (9, bo v1), (11, .sl 2 (v6.map Span.enc) (some t8)), (12, i64 v15), (13, i64 v16), (35, bo true)]) (mkS 137 [(0, i64 a0), (2, i64 a2), (3, i64 a3), (9, bo v1), (11, .sl 2 (v6.map Span.enc) (some t8)), (12, i64 v15), (13, i64 v16), (35, bo false)]) (by kernel_rfl) (by kernel_rfl) (fun hc23 => ?_) (fun hc23 => ?_)
    · rw [if_t hc23] at h
      refine AOps_seg 10 0x200000003a0d (mkS 137 [(0, i64 a0), (2, i64 a2), (3, i64 a3), (9, bo v1), (11, .sl 2 (v6.map Span.enc) (some t8)), (12, i64 v15), (13, i64 v16), (45, bo true)]) none [] (by kernel_rfl) (by kernel_rfl) trivial ?_
      refine AOps_end ?_
      refine athen_n ?_
      refine AT_cond_t (by kernel_rfl) ?_
      refine AT_seq ?_
      refine AT_region ?_
      refine AOps_seg 1 0x100 (mkS 137 [(8, bo false)]) none [] (by kernel_rfl) (by kernel_rfl) trivial ?_
      refine AOps_end ?_
      refine athen_n ?_
      refine AT_ret ?_
      refine athen_r ?_
      have e_ := Option.some.inj h
      subst e_
      exact ⟨[bo false], bo false, S, (.of (by kernel_rfl)), D.le.refl _, hB14, rfl, rfl⟩
    · rw [if_f hc23] at h
      refine AOps_seg 5 0x10000003a0d (mkS 137 [(0, i64 a0), (2, i64 a2), (3, i64 a3), (9, bo v1), (11, .sl 2 (v6.map Span.enc) (some t8)), (12, i64 v15), (13, i64 v16), (40, bo (decide (v15 > v16)))]) none [8, 9, 10, 11, 12] (by kernel_rfl) (by kernel_rfl) trivial ?_
      refine AOps_caseS 40 (decide (v15 > v16)) (by kernel_rfl) (mkS 137 [(0, i64 a0), (2, i64 a2), (3, i64 a3), (9, bo v1), (11, .sl 2 (v6.map Span.enc) (some t8)), (12, i64 v15), (13, i64 v16), (40, bo true)]) (mkS 137 [(0, i64 a0), (2, i64 a2), (3, i64 a3), (9, bo v1), (11, .sl 2 (v6.map Span.enc) (some t8)), (12, i64 v15), (13, i64 v16), (40, bo false)]) (by kernel_rfl) (by kernel_rfl) (fun hc24 => ?_) (fun hc24 => ?_)
      · rw [if_t hc24] at h
        refine AOps_seg 5 0x200000003a0d (mkS 137 [(0, i64 a0), (2, i64 a2), (3, i64 a3), (9, bo v1), (11, .sl 2 (v6.map Span.enc) (some t8)), (12, i64 v15), (13, i64 v16), (45, bo true)]) none [] (by kernel_rfl) (by kernel_rfl) trivial ?_
        refine AOps_end ?_
        refine athen_n ?_
        refine AT_cond_t (by kernel_rfl) ?_
        refine AT_seq ?_
        refine AT_region ?_
        refine AOps_seg 1 0x100 (mkS 137 [(8, bo false)]) none [] (by kernel_rfl) (by kernel_rfl) trivial ?_
        refine AOps_end ?_
        refine athen_n ?_
        refine AT_ret ?_
        refine athen_r ?_
        have e_ := Option.some.inj h
        subst e_
        exact ⟨[bo false], bo false, S, (.of (by kernel_rfl)), D.le.refl _, hB14, rfl, rfl⟩
      · rw [if_f hc24] at h
        refine AOps_seg 3 0xb0000003a0d (mkS 137 [(0, i64 a0), (2, i64 a2), (3, i64 a3), (9, bo v1), (11, .sl 2 (v6.map Span.enc) (some t8)), (12, i64 v15), (13, i64 v16), (40, bo false), (41, i64 v16), (43, i64 ((v6.map Span.enc).length : Int))]) none [11, 12] (by kernel_rfl) (by kernel_rfl) trivial ?_
        refine AOps_to (mkS 137 [(0, i64 a0), (2, i64 a2), (3, i64 a3), (9, bo v1), (11, .sl 2 (v6.map Span.enc) (some t8)), (12, i64 v15), (13, i64 v16), (40, bo false), (41, i64 v16), (43, i64 (v6.length : Int))]) (by rw [List.length_map]) ?_
        refine AOps_seg 2 0x200000003a0d (mkS 137 [(0, i64 a0), (2, i64 a2), (3, i64 a3), (9, bo v1), (11, .sl 2 (v6.map Span.enc) (some t8)), (12, i64 v15), (13, i64 v16), (45, bo (decide (v16 > (v6.length : Int))))]) none [] (by kernel_rfl) (by kernel_rfl) trivial ?_
        refine AOps_end ?_
        refine athen_n ?_
        refine AT_condS (decide (v16 > (v6.length : Int))) (by kernel_rfl) (fun hc26 => ?_) (fun hc26 => ?_)
        · rw [if_t hc26] at h
          refine AT_seq ?_
          refine AT_region ?_
          refine AOps_seg 1 0x100 (mkS 137 [(8, bo false)]) none [] (by kernel_rfl) (by kernel_rfl) trivial ?_
          refine AOps_end ?_
          refine athen_n ?_
          refine AT_ret ?_
          refine athen_r ?_
          have e_ := Option.some.inj h
          subst e_
          exact ⟨[bo false], bo false, S, (.of (by kernel_rfl)), D.le.refl _, hB14, rfl, rfl⟩
        · rw [if_f hc26] at h
          refine AT_skip ?_
          refine athen_n ?_
          refine AT_seq ?_
          refine AT_seq ?_
          refine AT_region ?_
          refine AOps_seg 1 0x7a0d (mkS 137 [(0, i64 a0), (2, i64 a2), (3, i64 a3), (9, bo v1), (11, .sl 2 (v6.map Span.enc) (some t8)), (12, i64 v15), (13, i64 v16), (14, i64 0)]) none [] (by kernel_rfl) (by kernel_rfl) trivial ?_
          refine AOps_end ?_
          refine athen_n ?_
          refine AT_block ?_
          refine AT_loopM 0x7a0d (fun k_ sl_ S29 => ∃ (x28 : Int), ∃ (tk27 : Nat), sl_ = mkS 137 [(0, i64 a0), (2, i64 a2), (3, i64 a3), (9, bo v1), (11, .sl 2 (v6.map Span.enc) (some tk27)), (12, i64 v15), (13, i64 v16), (14, i64 x28)] ∧ law18_LayoutOver.l0 k_ a0 a2 a3 v1 v6 v15 v16 x28 = some r ∧ S29.le S ∧ S.tk tk27 = none ∧ S29.tk tk27 = some ((v6).length, 2)) k ⟨0, t8, (by kernel_rfl), h, hB14, ff12, (at13.trans (by simp))⟩ ?_
          rintro k' sl_ S29 ⟨x28, tk27, rfl, h, hB30, ff31, at32⟩
          cases k' with
          | zero => cases h
          | succ k33 =>
            rw [law18_LayoutOver.l0] at h
            refine AT_seq ?_
            refine AT_seq ?_
            refine AT_region ?_
            refine AOps_seg 3 0x1400000007a0d (mkS 137 [(0, i64 a0), (2, i64 a2), (3, i64 a3), (9, bo v1), (11, .sl 2 (v6.map Span.enc) (some tk27)), (12, i64 v15), (13, i64 v16), (14, i64 x28), (46, i64 x28), (48, i64 ((v6.map Span.enc).length : Int))]) none [3] (by kernel_rfl) (by kernel_rfl) trivial ?_
            refine AOps_to (mkS 137 [(0, i64 a0), (2, i64 a2), (3, i64 a3), (9, bo v1), (11, .sl 2 (v6.map Span.enc) (some tk27)), (12, i64 v15), (13, i64 v16), (14, i64 x28), (46, i64 x28), (48, i64 (v6.length : Int))]) (by rw [List.length_map]) ?_
            refine AOps_seg 1 0x2000000007a0d (mkS 137 [(0, i64 a0), (2, i64 a2), (3, i64 a3), (9, bo v1), (11, .sl 2 (v6.map Span.enc) (some tk27)), (12, i64 v15), (13, i64 v16), (14, i64 x28), (49, bo (decide (x28 < (v6.length : Int))))]) none [] (by kernel_rfl) (by kernel_rfl) trivial ?_
            refine AOps_end ?_
            refine athen_n ?_
            refine AT_condS (decide (x28 < (v6.length : Int))) (by kernel_rfl) (fun hc35 => ?_) (fun hc35 => ?_)
            · rw [if_t hc35] at h
              refine AT_skip ?_
              refine athen_n ?_
              refine AT_seq ?_
              refine AT_block ?_
              refine AT_cutM 0xfa0d (fun sl_ S42 => ∃ (x41 : Bool), ∃ (tk40 : Nat), sl_ = mkS 137 [(0, i64 a0), (2, i64 a2), (3, i64 a3), (9, bo v1), (11, .sl 2 (v6.map Span.enc) (some tk40)), (12, i64 v15), (13, i64 v16), (14, i64 x28), (15, bo x41)] ∧ law18_LayoutOver.j1 k33 a0 a2 a3 v1 v6 v15 v16 x28 x41 = some r ∧ S42.le S ∧ S.tk tk40 = none ∧ S42.tk tk40 = some ((v6).length, 2)) ?_ ?_
              · refine AT_region ?_
                by_cases hi46 : 0 ≤ x28 ∧ x28 < (v6.length : Int)
                rotate_left
                · rw [if_neg hi46] at h; cases h
                rw [if_pos hi46] at h
                refine AOps_seg 3 0x40000000007a0d (mkS 137 [(0, i64 a0), (2, i64 a2), (3, i64 a3), (9, bo v1), (11, .sl 2 (v6.map Span.enc) (some tk27)), (12, i64 v15), (13, i64 v16), (14, i64 x28), (54, .pt ((v6.map Span.enc).getD (x28 : Int).toNat []))]) (some (0 ≤ x28 ∧ x28 < ((v6.map Span.enc).length : Int))) [3, 4, 5, 6, 7, 8, 9, 10, 11, 12, 13, 14, 15, 16, 17, 18, 19, 20, 21] (by kernel_rfl) (by kernel_rfl) (idx_ok hi46) ?_
                refine AOps_to (mkS 137 [(0, i64 a0), (2, i64 a2), (3, i64 a3), (9, bo v1), (11, .sl 2 (v6.map Span.enc) (some tk27)), (12, i64 v15), (13, i64 v16), (14, i64 x28), (54, .pt (Span.enc (rd v6 x28 Span.zero)))]) (by rw [pt_rd Span.enc v6 x28 Span.zero hi46.1 hi46.2]) ?_
                refine AOps_seg 5 0x800000000007a0d (mkS 137 [(0, i64 a0), (2, i64 a2), (3, i64 a3), (9, bo v1), (11, .sl 2 (v6.map Span.enc) (some tk27)), (12, i64 v15), (13, i64 v16), (14, i64 x28), (59, bo (decide (((rd v6 x28 Span.zero).From) < a3)))]) none [8, 9, 10, 11, 12, 13, 14, 15, 16, 17, 18, 19, 20, 21] (by kernel_rfl) (by kernel_rfl) trivial ?_
                refine AOps_caseS 59 (decide (((rd v6 x28 Span.zero).From) < a3)) (by kernel_rfl) (mkS 137 [(0, i64 a0), (2, i64 a2), (3, i64 a3), (9, bo v1), (11, .sl 2 (v6.map Span.enc) (some tk27)), (12, i64 v15), (13, i64 v16), (14, i64 x28), (59, bo true)]) (mkS 137 [(0, i64 a0), (2, i64 a2), (3, i64 a3), (9, bo v1), (11, .sl 2 (v6.map Span.enc) (some tk27)), (12, i64 v15), (13, i64 v16), (14, i64 x28), (59, bo false)]) (by kernel_rfl) (by kernel_rfl) (fun hc47 => ?_) (fun hc47 => ?_)
                · rw [if_t hc47] at h
                  by_cases hi48 : 0 ≤ x28 ∧ x28 < (v6.length : Int)
                  rotate_left
                  · rw [if_neg hi48] at h; cases h
                  rw [if_pos hi48] at h
                  refine AOps_seg 3 0x4800000000007a0d (mkS 137 [(0, i64 a0), (2, i64 a2), (3, i64 a3), (9, bo v1), (11, .sl 2 (v6.map Span.enc) (some tk27)), (12, i64 v15), (13, i64 v16), (14, i64 x28), (59, bo true), (62, .pt ((v6.map Span.enc).getD (x28 : Int).toNat []))]) (some (0 ≤ x28 ∧ x28 < ((v6.map Span.enc).length : Int))) [11, 12, 13, 14, 15, 16, 17, 18, 19, 20, 21] (by kernel_rfl) (by kernel_rfl) (idx_ok hi48) ?_
                  refine AOps_to (mkS 137 [(0, i64 a0), (2, i64 a2), (3, i64 a3), (9, bo v1), (11, .sl 2 (v6.map Span.enc) (some tk27)), (12, i64 v15), (13, i64 v16), (14, i64 x28), (59, bo true), (62, .pt (Span.enc (rd v6 x28 Span.zero)))]) (by rw [pt_rd Span.enc v6 x28 Span.zero hi48.1 hi48.2]) ?_
                  refine AOps_seg 6 0x100000000000007a0d (mkS 137 [(0, i64 a0), (2, i64 a2), (3, i64 a3), (9, bo v1), (11, .sl 2 (v6.map Span.enc) (some tk27)), (12, i64 v15), (13, i64 v16), (14, i64 x28), (68, bo (decide (((rd v6 x28 Span.zero).To) > a2)))]) none [17, 18, 19, 20, 21] (by kernel_rfl) (by kernel_rfl) trivial ?_
                  refine AOps_caseS 68 (decide (((rd v6 x28 Span.zero).To) > a2)) (by kernel_rfl) (mkS 137 [(0, i64 a0), (2, i64 a2), (3, i64 a3), (9, bo v1), (11, .sl 2 (v6.map Span.enc) (some tk27)), (12, i64 v15), (13, i64 v16), (14, i64 x28), (68, bo true)]) (mkS 137 [(0, i64 a0), (2, i64 a2), (3, i64 a3), (9, bo v1), (11, .sl 2 (v6.map Span.enc) (some tk27)), (12, i64 v15), (13, i64 v16), (14, i64 x28), (68, bo false)]) (by kernel_rfl) (by kernel_rfl) (fun hc49 => ?_) (fun hc49 => ?_)
                  · rw [if_t hc49] at h
                    refine AOps_seg 5 0xfa0d (mkS 137 [(0, i64 a0), (2, i64 a2), (3, i64 a3), (9, bo v1), (11, .sl 2 (v6.map Span.enc) (some tk27)), (12, i64 v15), (13, i64 v16), (14, i64 x28), (15, bo (decide (a2 < a3)))]) none [] (by kernel_rfl) (by kernel_rfl) trivial ?_
                    refine AOps_end ?_
                    refine athen_n ?_
                    exact ⟨decide (a2 < a3), tk27, (by kernel_rfl), h, hB30, ff31, (at32.trans (by simp))⟩
                  · rw [if_f hc49] at h
                    refine AOps_seg 5 0xfa0d (mkS 137 [(0, i64 a0), (2, i64 a2), (3, i64 a3), (9, bo v1), (11, .sl 2 (v6.map Span.enc) (some tk27)), (12, i64 v15), (13, i64 v16), (14, i64 x28), (15, bo false)]) none [] (by kernel_rfl) (by kernel_rfl) trivial ?_
                    refine AOps_end ?_
                    refine athen_n ?_
                    exact ⟨false, tk27, (by kernel_rfl), h, hB30, ff31, (at32.trans (by simp))⟩
                · rw [if_f hc47] at h
                  refine AOps_seg 14 0xfa0d (mkS 137 [(0, i64 a0), (2, i64 a2), (3, i64 a3), (9, bo v1), (11, .sl 2 (v6.map Span.enc) (some tk27)), (12, i64 v15), (13, i64 v16), (14, i64 x28), (15, bo false)]) none [] (by kernel_rfl) (by kernel_rfl) trivial ?_
                  refine AOps_end ?_
                  refine athen_n ?_
                  exact ⟨false, tk27, (by kernel_rfl), h, hB30, ff31, (at32.trans (by simp))⟩
              · clear h
                rintro sl_ S42 ⟨x41, tk40, rfl, h, hB43, ff44, at45⟩
                cases k33 with
                | zero => cases h
                | succ k50 =>
                  rw [law18_LayoutOver.j1] at h
                  refine AT_seq ?_
                  refine AT_region ?_
                  refine AOps_seg 5 0x22000000000000007a0d (mkS 137 [(0, i64 a0), (2, i64 a2), (3, i64 a3), (9, bo v1), (11, .sl 2 (v6.map Span.enc) (some tk40)), (12, i64 v15), (13, i64 v16), (14, i64 x28), (73, bo x41), (77, bo (decide (x28 ≥ v15)))]) none [5, 6, 7, 8, 9] (by kernel_rfl) (by kernel_rfl) trivial ?_
                  refine AOps_caseS 77 (decide (x28 ≥ v15)) (by kernel_rfl) (mkS 137 [(0, i64 a0), (2, i64 a2), (3, i64 a3), (9, bo v1), (11, .sl 2 (v6.map Span.enc) (some tk40)), (12, i64 v15), (13, i64 v16), (14, i64 x28), (73, bo x41), (77, bo true)]) (mkS 137 [(0, i64 a0), (2, i64 a2), (3, i64 a3), (9, bo v1), (11, .sl 2 (v6.map Span.enc) (some tk40)), (12, i64 v15), (13, i64 v16), (14, i64 x28), (73, bo x41), (77, bo false)]) (by kernel_rfl) (by kernel_rfl) (fun hc51 => ?_) (fun hc51 => ?_)
                  · rw [if_t hc51] at h
                    refine AOps_seg 5 0x400000000000000007a0d (mkS 137 [(0, i64 a0), (2, i64 a2), (3, i64 a3), (9, bo v1), (11, .sl 2 (v6.map Span.enc) (some tk40)), (12, i64 v15), (13, i64 v16), (14, i64 x28), (82, bo (!(x41 == (decide (x28 < v16)))))]) none [] (by kernel_rfl) (by kernel_rfl) trivial ?_
                    refine AOps_end ?_
                    refine athen_n ?_
                    refine AT_condS (!(x41 == (decide (x28 < v16)))) (by kernel_rfl) (fun hc52 => ?_) (fun hc52 => ?_)
                    · rw [if_t hc52] at h
                      refine AT_seq ?_
                      refine AT_region ?_
                      refine AOps_seg 1 0x100 (mkS 137 [(8, bo false)]) none [] (by kernel_rfl) (by kernel_rfl) trivial ?_
                      refine AOps_end ?_
                      refine athen_n ?_
                      refine AT_ret ?_
                      refine ablock_r ?_
                      refine athen_r ?_
                      refine athen_r ?_
                      refine ablock_r ?_
                      refine athen_r ?_
                      have e_ := Option.some.inj h
                      subst e_
                      exact ⟨[bo false], bo false, S, (.of (by kernel_rfl)), D.le.refl _, hB43, rfl, rfl⟩
                    · rw [if_f hc52] at h
                      refine AT_skip ?_
                      refine ablock_n ?_
                      refine athen_n ?_
                      refine AT_region ?_
                      refine AOps_seg 3 0x7a0d (mkS 137 [(0, i64 a0), (2, i64 a2), (3, i64 a3), (9, bo v1), (11, .sl 2 (v6.map Span.enc) (some tk40)), (12, i64 v15), (13, i64 v16), (14, i64 (IntKind.wrap .i64 (x28 + 1)))]) none [] (by kernel_rfl) (by kernel_rfl) trivial ?_
                      refine AOps_end ?_
                      refine athen_n ?_
                      exact ⟨k50, (by omega), IntKind.wrap .i64 (x28 + 1), tk40, (by kernel_rfl), h, hB43, ff44, (at45.trans (by simp))⟩
                  · rw [if_f hc51] at h
                    refine AOps_seg 5 0x400000000000000007a0d (mkS 137 [(0, i64 a0), (2, i64 a2), (3, i64 a3), (9, bo v1), (11, .sl 2 (v6.map Span.enc) (some tk40)), (12, i64 v15), (13, i64 v16), (14, i64 x28), (82, bo (!(x41 == false)))]) none [] (by kernel_rfl) (by kernel_rfl) trivial ?_
                    refine AOps_end ?_
                    refine athen_n ?_
                    refine AT_condS (!(x41 == false)) (by kernel_rfl) (fun hc53 => ?_) (fun hc53 => ?_)
                    · rw [if_t hc53] at h
                      refine AT_seq ?_
                      refine AT_region ?_
                      refine AOps_seg 1 0x100 (mkS 137 [(8, bo false)]) none [] (by kernel_rfl) (by kernel_rfl) trivial ?_
                      refine AOps_end ?_
                      refine athen_n ?_
                      refine AT_ret ?_
                      refine ablock_r ?_
                      refine athen_r ?_
                      refine athen_r ?_
                      refine ablock_r ?_
                      refine athen_r ?_
                      have e_ := Option.some.inj h
                      subst e_
                      exact ⟨[bo false], bo false, S, (.of (by kernel_rfl)), D.le.refl _, hB43, rfl, rfl⟩
                    · rw [if_f hc53] at h
                      refine AT_skip ?_
                      refine ablock_n ?_
                      refine athen_n ?_
                      refine AT_region ?_
                      refine AOps_seg 3 0x7a0d (mkS 137 [(0, i64 a0), (2, i64 a2), (3, i64 a3), (9, bo v1), (11, .sl 2 (v6.map Span.enc) (some tk40)), (12, i64 v15), (13, i64 v16), (14, i64 (IntKind.wrap .i64 (x28 + 1)))]) none [] (by kernel_rfl) (by kernel_rfl) trivial ?_
                      refine AOps_end ?_
                      refine athen_n ?_
                      exact ⟨k50, (by omega), IntKind.wrap .i64 (x28 + 1), tk40, (by kernel_rfl), h, hB43, ff44, (at45.trans (by simp))⟩
            · rw [if_f hc35] at h
              refine AT_exit ?_
              refine athen_e ?_
              refine athen_e ?_
              refine ablock_h ?_
              refine athen_n ?_
              refine AT_cutM 0x3200 (fun sl_ S67 => sl_ = mkS 137 [(9, bo v1), (12, i64 v15), (13, i64 v16)] ∧ law18_LayoutOver.j2 k33 v1 v15 v16 = some r ∧ S67.le S) ?_ ?_
              · refine AT_seq ?_
                refine AT_region ?_
                refine AOps_seg 4 0x4000000000000000003a0d (mkS 137 [(0, i64 a0), (2, i64 a2), (3, i64 a3), (9, bo v1), (11, .sl 2 (v6.map Span.enc) (some tk27)), (12, i64 v15), (13, i64 v16), (86, bo (decide (v15 < v16)))]) none [4, 5, 6, 7, 8, 9, 10, 11, 12, 13, 14, 15, 16, 17, 18, 19, 20, 21, 22, 23, 24, 25, 26, 27, 28, 29, 30, 31, 32, 33, 34, 35, 36, 37, 38, 39] (by kernel_rfl) (by kernel_rfl) trivial ?_
                refine AOps_caseS 86 (decide (v15 < v16)) (by kernel_rfl) (mkS 137 [(0, i64 a0), (2, i64 a2), (3, i64 a3), (9, bo v1), (11, .sl 2 (v6.map Span.enc) (some tk27)), (12, i64 v15), (13, i64 v16), (86, bo true)]) (mkS 137 [(0, i64 a0), (2, i64 a2), (3, i64 a3), (9, bo v1), (11, .sl 2 (v6.map Span.enc) (some tk27)), (12, i64 v15), (13, i64 v16), (86, bo false)]) (by kernel_rfl) (by kernel_rfl) (fun hc69 => ?_) (fun hc69 => ?_)
                · rw [if_t hc69] at h
                  by_cases hi70 : 0 ≤ v15 ∧ v15 < (v6.length : Int)
                  rotate_left
                  · rw [if_neg hi70] at h; cases h
                  rw [if_pos hi70] at h
                  refine AOps_seg 3 0x24000000000000000003a0d (mkS 137 [(0, i64 a0), (2, i64 a2), (3, i64 a3), (9, bo v1), (11, .sl 2 (v6.map Span.enc) (some tk27)), (12, i64 v15), (13, i64 v16), (86, bo true), (89, .pt ((v6.map Span.enc).getD (v15 : Int).toNat []))]) (some (0 ≤ v15 ∧ v15 < ((v6.map Span.enc).length : Int))) [7, 8, 9, 10, 11, 12, 13, 14, 15, 16, 17, 18, 19, 20, 21, 22, 23, 24, 25, 26, 27, 28, 29, 30, 31, 32, 33, 34, 35, 36, 37, 38, 39] (by kernel_rfl) (by kernel_rfl) (idx_ok hi70) ?_
                  refine AOps_to (mkS 137 [(0, i64 a0), (2, i64 a2), (3, i64 a3), (9, bo v1), (11, .sl 2 (v6.map Span.enc) (some tk27)), (12, i64 v15), (13, i64 v16), (86, bo true), (89, .pt (Span.enc (rd v6 v15 Span.zero)))]) (by rw [pt_rd Span.enc v6 v15 Span.zero hi70.1 hi70.2]) ?_
                  refine AOps_seg 5 0x404000000000000000003a09 (mkS 137 [(0, i64 a0), (3, i64 a3), (9, bo v1), (11, .sl 2 (v6.map Span.enc) (some tk27)), (12, i64 v15), (13, i64 v16), (86, bo true), (94, bo (decide (((rd v6 v15 Span.zero).From) > a2)))]) none [12, 13, 14, 15, 16, 17, 18, 19, 20, 21, 22, 23, 24, 25, 26, 27, 28, 29, 30, 31, 32, 33, 34, 35, 36, 37, 38, 39] (by kernel_rfl) (by kernel_rfl) trivial ?_
                  refine AOps_caseS 94 (decide (((rd v6 v15 Span.zero).From) > a2)) (by kernel_rfl) (mkS 137 [(0, i64 a0), (3, i64 a3), (9, bo v1), (11, .sl 2 (v6.map Span.enc) (some tk27)), (12, i64 v15), (13, i64 v16), (86, bo true), (94, bo true)]) (mkS 137 [(0, i64 a0), (3, i64 a3), (9, bo v1), (11, .sl 2 (v6.map Span.enc) (some tk27)), (12, i64 v15), (13, i64 v16), (86, bo true), (94, bo false)]) (by kernel_rfl) (by kernel_rfl) (fun hc71 => ?_) (fun hc71 => ?_)
                  · rw [if_t hc71] at h
                    by_cases hi72 : 0 ≤ v15 ∧ v15 < (v6.length : Int)
                    rotate_left
                    · rw [if_neg hi72] at h; cases h
                    rw [if_pos hi72] at h
                    refine AOps_seg 3 0x2404000000000000000003a09 (mkS 137 [(0, i64 a0), (3, i64 a3), (9, bo v1), (11, .sl 2 (v6.map Span.enc) (some tk27)), (12, i64 v15), (13, i64 v16), (86, bo true), (94, bo true), (97, .pt ((v6.map Span.enc).getD (v15 : Int).toNat []))]) (some (0 ≤ v15 ∧ v15 < ((v6.map Span.enc).length : Int))) [15, 16, 17, 18, 19, 20, 21, 22, 23, 24, 25, 26, 27, 28, 29, 30, 31, 32, 33, 34, 35, 36, 37, 38, 39] (by kernel_rfl) (by kernel_rfl) (idx_ok hi72) ?_
                    refine AOps_to (mkS 137 [(0, i64 a0), (3, i64 a3), (9, bo v1), (11, .sl 2 (v6.map Span.enc) (some tk27)), (12, i64 v15), (13, i64 v16), (86, bo true), (94, bo true), (97, .pt (Span.enc (rd v6 v15 Span.zero)))]) (by rw [pt_rd Span.enc v6 v15 Span.zero hi72.1 hi72.2]) ?_
                    refine AOps_seg 5 0x40004000000000000000003a09 (mkS 137 [(0, i64 a0), (3, i64 a3), (9, bo v1), (11, .sl 2 (v6.map Span.enc) (some tk27)), (12, i64 v15), (13, i64 v16), (86, bo true), (102, bo (((rd v6 v15 Span.zero).From) != 0))]) none [20, 21, 22, 23, 24, 25, 26, 27, 28, 29, 30, 31, 32, 33, 34, 35, 36, 37, 38, 39] (by kernel_rfl) (by kernel_rfl) trivial ?_
                    refine AOps_caseS 102 (((rd v6 v15 Span.zero).From) != 0) (by kernel_rfl) (mkS 137 [(0, i64 a0), (3, i64 a3), (9, bo v1), (11, .sl 2 (v6.map Span.enc) (some tk27)), (12, i64 v15), (13, i64 v16), (86, bo true), (102, bo true)]) (mkS 137 [(0, i64 a0), (3, i64 a3), (9, bo v1), (11, .sl 2 (v6.map Span.enc) (some tk27)), (12, i64 v15), (13, i64 v16), (86, bo true), (102, bo false)]) (by kernel_rfl) (by kernel_rfl) (fun hc73 => ?_) (fun hc73 => ?_)
                    · rw [if_t hc73] at h
                      refine AOps_seg 20 0x4000000000000000000000000003200 (mkS 137 [(9, bo v1), (12, i64 v15), (13, i64 v16), (122, bo true)]) none [] (by kernel_rfl) (by kernel_rfl) trivial ?_
                      refine AOps_end ?_
                      refine athen_n ?_
                      refine AT_cond_t (by kernel_rfl) ?_
                      refine AT_seq ?_
                      refine AT_region ?_
                      refine AOps_seg 1 0x100 (mkS 137 [(8, bo false)]) none [] (by kernel_rfl) (by kernel_rfl) trivial ?_
                      refine AOps_end ?_
                      refine athen_n ?_
                      refine AT_ret ?_
                      refine athen_r ?_
                      have e_ := Option.some.inj h
                      subst e_
                      exact ⟨[bo false], bo false, S, (.of (by kernel_rfl)), D.le.refl _, hB30, rfl, rfl⟩
                    · rw [if_f hc73] at h
                      by_cases hi74 : 0 ≤ (IntKind.wrap .i64 (v16 - 1)) ∧ (IntKind.wrap .i64 (v16 - 1)) < (v6.length : Int)
                      rotate_left
                      · rw [if_neg hi74] at h; cases h
                      rw [if_pos hi74] at h
                      refine AOps_seg 4 0x440004000000000000000003a09 (mkS 137 [(0, i64 a0), (3, i64 a3), (9, bo v1), (11, .sl 2 (v6.map Span.enc) (some tk27)), (12, i64 v15), (13, i64 v16), (86, bo true), (102, bo false), (106, .pt ((v6.map Span.enc).getD (IntKind.wrap .i64 (v16 - 1) : Int).toNat []))]) (some (0 ≤ (IntKind.wrap .i64 (v16 - 1)) ∧ (IntKind.wrap .i64 (v16 - 1)) < ((v6.map Span.enc).length : Int))) [24, 25, 26, 27, 28, 29, 30, 31, 32, 33, 34, 35, 36, 37, 38, 39] (by kernel_rfl) (by kernel_rfl) (idx_ok hi74) ?_
                      refine AOps_to (mkS 137 [(0, i64 a0), (3, i64 a3), (9, bo v1), (11, .sl 2 (v6.map Span.enc) (some tk27)), (12, i64 v15), (13, i64 v16), (86, bo true), (102, bo false), (106, .pt (Span.enc (rd v6 (IntKind.wrap .i64 (v16 - 1)) Span.zero)))]) (by rw [pt_rd Span.enc v6 (IntKind.wrap .i64 (v16 - 1)) Span.zero hi74.1 hi74.2]) ?_
                      refine AOps_seg 5 0x8040004000000000000000003a01 (mkS 137 [(0, i64 a0), (9, bo v1), (11, .sl 2 (v6.map Span.enc) (some tk27)), (12, i64 v15), (13, i64 v16), (86, bo true), (102, bo false), (111, bo (decide (((rd v6 (IntKind.wrap .i64 (v16 - 1)) Span.zero).To) < a3)))]) none [29, 30, 31, 32, 33, 34, 35, 36, 37, 38, 39] (by kernel_rfl) (by kernel_rfl) trivial ?_
                      refine AOps_caseS 111 (decide (((rd v6 (IntKind.wrap .i64 (v16 - 1)) Span.zero).To) < a3)) (by kernel_rfl) (mkS 137 [(0, i64 a0), (9, bo v1), (11, .sl 2 (v6.map Span.enc) (some tk27)), (12, i64 v15), (13, i64 v16), (86, bo true), (102, bo false), (111, bo true)]) (mkS 137 [(0, i64 a0), (9, bo v1), (11, .sl 2 (v6.map Span.enc) (some tk27)), (12, i64 v15), (13, i64 v16), (86, bo true), (102, bo false), (111, bo false)]) (by kernel_rfl) (by kernel_rfl) (fun hc75 => ?_) (fun hc75 => ?_)
                      · rw [if_t hc75] at h
                        by_cases hi76 : 0 ≤ (IntKind.wrap .i64 (v16 - 1)) ∧ (IntKind.wrap .i64 (v16 - 1)) < (v6.length : Int)
                        rotate_left
                        · rw [if_neg hi76] at h; cases h
                        rw [if_pos hi76] at h
                        refine AOps_seg 4 0x88040004000000000000000003201 (mkS 137 [(0, i64 a0), (9, bo v1), (12, i64 v15), (13, i64 v16), (86, bo true), (102, bo false), (111, bo true), (115, .pt ((v6.map Span.enc).getD (IntKind.wrap .i64 (v16 - 1) : Int).toNat []))]) (some (0 ≤ (IntKind.wrap .i64 (v16 - 1)) ∧ (IntKind.wrap .i64 (v16 - 1)) < ((v6.map Span.enc).length : Int))) [33, 34, 35, 36, 37, 38, 39] (by kernel_rfl) (by kernel_rfl) (idx_ok hi76) ?_
                        refine AOps_to (mkS 137 [(0, i64 a0), (9, bo v1), (12, i64 v15), (13, i64 v16), (86, bo true), (102, bo false), (111, bo true), (115, .pt (Span.enc (rd v6 (IntKind.wrap .i64 (v16 - 1)) Span.zero)))]) (by rw [pt_rd Span.enc v6 (IntKind.wrap .i64 (v16 - 1)) Span.zero hi76.1 hi76.2]) ?_
                        refine AOps_seg 7 0x4000000000000000000000000003200 (mkS 137 [(9, bo v1), (12, i64 v15), (13, i64 v16), (122, bo (((rd v6 (IntKind.wrap .i64 (v16 - 1)) Span.zero).To) != a0))]) none [] (by kernel_rfl) (by kernel_rfl) trivial ?_
                        refine AOps_end ?_
                        refine athen_n ?_
                        refine AT_condS (((rd v6 (IntKind.wrap .i64 (v16 - 1)) Span.zero).To) != a0) (by kernel_rfl) (fun hc77 => ?_) (fun hc77 => ?_)
                        · rw [if_t hc77] at h
                          refine AT_seq ?_
                          refine AT_region ?_
                          refine AOps_seg 1 0x100 (mkS 137 [(8, bo false)]) none [] (by kernel_rfl) (by kernel_rfl) trivial ?_
                          refine AOps_end ?_
                          refine athen_n ?_
                          refine AT_ret ?_
                          refine athen_r ?_
                          have e_ := Option.some.inj h
                          subst e_
                          exact ⟨[bo false], bo false, S, (.of (by kernel_rfl)), D.le.refl _, hB30, rfl, rfl⟩
                        · rw [if_f hc77] at h
                          refine AT_skip ?_
                          refine athen_n ?_
                          exact ⟨(by kernel_rfl), h, hB30⟩
                      · rw [if_f hc75] at h
                        refine AOps_seg 11 0x4000000000000000000000000003200 (mkS 137 [(9, bo v1), (12, i64 v15), (13, i64 v16), (122, bo false)]) none [] (by kernel_rfl) (by kernel_rfl) trivial ?_
                        refine AOps_end ?_
                        refine athen_n ?_
                        refine AT_cond_f (by kernel_rfl) ?_
                        refine AT_skip ?_
                        refine athen_n ?_
                        exact ⟨(by kernel_rfl), h, hB30⟩
                  · rw [if_f hc71] at h
                    by_cases hi78 : 0 ≤ (IntKind.wrap .i64 (v16 - 1)) ∧ (IntKind.wrap .i64 (v16 - 1)) < (v6.length : Int)
                    rotate_left
                    · rw [if_neg hi78] at h; cases h
                    rw [if_pos hi78] at h
                    refine AOps_seg 12 0x440004000000000000000003a09 (mkS 137 [(0, i64 a0), (3, i64 a3), (9, bo v1), (11, .sl 2 (v6.map Span.enc) (some tk27)), (12, i64 v15), (13, i64 v16), (86, bo true), (102, bo false), (106, .pt ((v6.map Span.enc).getD (IntKind.wrap .i64 (v16 - 1) : Int).toNat []))]) (some (0 ≤ (IntKind.wrap .i64 (v16 - 1)) ∧ (IntKind.wrap .i64 (v16 - 1)) < ((v6.map Span.enc).length : Int))) [24, 25, 26, 27, 28, 29, 30, 31, 32, 33, 34, 35, 36, 37, 38, 39] (by kernel_rfl) (by kernel_rfl) (idx_ok hi78) ?_
                    refine AOps_to (mkS 137 [(0, i64 a0), (3, i64 a3), (9, bo v1), (11, .sl 2 (v6.map Span.enc) (some tk27)), (12, i64 v15), (13, i64 v16), (86, bo true), (102, bo false), (106, .pt (Span.enc (rd v6 (IntKind.wrap .i64 (v16 - 1)) Span.zero)))]) (by rw [pt_rd Span.enc v6 (IntKind.wrap .i64 (v16 - 1)) Span.zero hi78.1 hi78.2]) ?_
                    refine AOps_seg 5 0x8040004000000000000000003a01 (mkS 137 [(0, i64 a0), (9, bo v1), (11, .sl 2 (v6.map Span.enc) (some tk27)), (12, i64 v15), (13, i64 v16), (86, bo true), (102, bo false), (111, bo (decide (((rd v6 (IntKind.wrap .i64 (v16 - 1)) Span.zero).To) < a3)))]) none [29, 30, 31, 32, 33, 34, 35, 36, 37, 38, 39] (by kernel_rfl) (by kernel_rfl) trivial ?_
                    refine AOps_caseS 111 (decide (((rd v6 (IntKind.wrap .i64 (v16 - 1)) Span.zero).To) < a3)) (by kernel_rfl) (mkS 137 [(0, i64 a0), (9, bo v1), (11, .sl 2 (v6.map Span.enc) (some tk27)), (12, i64 v15), (13, i64 v16), (86, bo true), (102, bo false), (111, bo true)]) (mkS 137 [(0, i64 a0), (9, bo v1), (11, .sl 2 (v6.map Span.enc) (some tk27)), (12, i64 v15), (13, i64 v16), (86, bo true), (102, bo false), (111, bo false)]) (by kernel_rfl) (by kernel_rfl) (fun hc79 => ?_) (fun hc79 => ?_)
                    · rw [if_t hc79] at h
                      by_cases hi80 : 0 ≤ (IntKind.wrap .i64 (v16 - 1)) ∧ (IntKind.wrap .i64 (v16 - 1)) < (v6.length : Int)
                      rotate_left
                      · rw [if_neg hi80] at h; cases h
                      rw [if_pos hi80] at h
                      refine AOps_seg 4 0x88040004000000000000000003201 (mkS 137 [(0, i64 a0), (9, bo v1), (12, i64 v15), (13, i64 v16), (86, bo true), (102, bo false), (111, bo true), (115, .pt ((v6.map Span.enc).getD (IntKind.wrap .i64 (v16 - 1) : Int).toNat []))]) (some (0 ≤ (IntKind.wrap .i64 (v16 - 1)) ∧ (IntKind.wrap .i64 (v16 - 1)) < ((v6.map Span.enc).length : Int))) [33, 34, 35, 36, 37, 38, 39] (by kernel_rfl) (by kernel_rfl) (idx_ok hi80) ?_
                      refine AOps_to (mkS 137 [(0, i64 a0), (9, bo v1), (12, i64 v15), (13, i64 v16), (86, bo true), (102, bo false), (111, bo true), (115, .pt (Span.enc (rd v6 (IntKind.wrap .i64 (v16 - 1)) Span.zero)))]) (by rw [pt_rd Span.enc v6 (IntKind.wrap .i64 (v16 - 1)) Span.zero hi80.1 hi80.2]) ?_
                      refine AOps_seg 7 0x4000000000000000000000000003200 (mkS 137 [(9, bo v1), (12, i64 v15), (13, i64 v16), (122, bo (((rd v6 (IntKind.wrap .i64 (v16 - 1)) Span.zero).To) != a0))]) none [] (by kernel_rfl) (by kernel_rfl) trivial ?_
                      refine AOps_end ?_
                      refine athen_n ?_
                      refine AT_condS (((rd v6 (IntKind.wrap .i64 (v16 - 1)) Span.zero).To) != a0) (by kernel_rfl) (fun hc81 => ?_) (fun hc81 => ?_)
                      · rw [if_t hc81] at h
                        refine AT_seq ?_
                        refine AT_region ?_
                        refine AOps_seg 1 0x100 (mkS 137 [(8, bo false)]) none [] (by kernel_rfl) (by kernel_rfl) trivial ?_
                        refine AOps_end ?_
                        refine athen_n ?_
                        refine AT_ret ?_
                        refine athen_r ?_
                        have e_ := Option.some.inj h
                        subst e_
                        exact ⟨[bo false], bo false, S, (.of (by kernel_rfl)), D.le.refl _, hB30, rfl, rfl⟩
                      · rw [if_f hc81] at h
                        refine AT_skip ?_
                        refine athen_n ?_
                        exact ⟨(by kernel_rfl), h, hB30⟩
                    · rw [if_f hc79] at h
                      refine AOps_seg 11 0x4000000000000000000000000003200 (mkS 137 [(9, bo v1), (12, i64 v15), (13, i64 v16), (122, bo false)]) none [] (by kernel_rfl) (by kernel_rfl) trivial ?_
                      refine AOps_end ?_
                      refine athen_n ?_
                      refine AT_cond_f (by kernel_rfl) ?_
                      refine AT_skip ?_
                      refine athen_n ?_
                      exact ⟨(by kernel_rfl), h, hB30⟩
                · rw [if_f hc69] at h
                  refine AOps_seg 36 0x4000000000000000000000000003200 (mkS 137 [(9, bo v1), (12, i64 v15), (13, i64 v16), (122, bo false)]) none [] (by kernel_rfl) (by kernel_rfl) trivial ?_
                  refine AOps_end ?_
                  refine athen_n ?_
                  refine AT_cond_f (by kernel_rfl) ?_
                  refine AT_skip ?_
                  refine athen_n ?_
                  exact ⟨(by kernel_rfl), h, hB30⟩
              · clear h
                rintro sl_ S67 ⟨rfl, h, hB68⟩
                cases k33 with
                | zero => cases h
                | succ k82 =>
                  rw [law18_LayoutOver.j2] at h
                  refine AT_seq ?_
                  refine AT_region ?_
                  refine AOps_seg 2 0x10000000000000000000000000003000 (mkS 137 [(12, i64 v15), (13, i64 v16), (124, bo v1)]) none [2, 3, 4, 5, 6, 7, 8, 9, 10, 11, 12, 13, 14] (by kernel_rfl) (by kernel_rfl) trivial ?_
                  refine AOps_caseS 124 v1 (by kernel_rfl) (mkS 137 [(12, i64 v15), (13, i64 v16), (124, bo true)]) (mkS 137 [(12, i64 v15), (13, i64 v16), (124, bo false)]) (by kernel_rfl) (by kernel_rfl) (fun hc83 => ?_) (fun hc83 => ?_)
                  · rw [if_t hc83] at h
                    refine AOps_seg 4 0x110000000000000000000000000003000 (mkS 137 [(12, i64 v15), (13, i64 v16), (124, bo true), (128, bo (decide (v15 < v16)))]) none [6, 7, 8, 9, 10, 11, 12, 13, 14] (by kernel_rfl) (by kernel_rfl) trivial ?_
                    refine AOps_caseS 128 (decide (v15 < v16)) (by kernel_rfl) (mkS 137 [(12, i64 v15), (13, i64 v16), (124, bo true), (128, bo true)]) (mkS 137 [(12, i64 v15), (13, i64 v16), (124, bo true), (128, bo false)]) (by kernel_rfl) (by kernel_rfl) (fun hc84 => ?_) (fun hc84 => ?_)
                    · rw [if_t hc84] at h
                      refine AOps_seg 9 0x100 (mkS 137 [(8, bo true)]) none [] (by kernel_rfl) (by kernel_rfl) trivial ?_
                      refine AOps_end ?_
                      refine athen_n ?_
                      refine AT_ret ?_
                      have e_ := Option.some.inj h
                      subst e_
                      exact ⟨[bo true], bo true, S, (.of (by kernel_rfl)), D.le.refl _, hB68, rfl, rfl⟩
                    · rw [if_f hc84] at h
                      refine AOps_seg 3 0x910000000000000000000000000002000 (mkS 137 [(13, i64 v16), (124, bo true), (128, bo false), (131, bo (v15 == 0))]) none [9, 10, 11, 12, 13, 14] (by kernel_rfl) (by kernel_rfl) trivial ?_
                      refine AOps_caseS 131 (v15 == 0) (by kernel_rfl) (mkS 137 [(13, i64 v16), (124, bo true), (128, bo false), (131, bo true)]) (mkS 137 [(13, i64 v16), (124, bo true), (128, bo false), (131, bo false)]) (by kernel_rfl) (by kernel_rfl) (fun hc85 => ?_) (fun hc85 => ?_)
                      · rw [if_t hc85] at h
                        refine AOps_seg 6 0x100 (mkS 137 [(8, bo (v16 == 0))]) none [] (by kernel_rfl) (by kernel_rfl) trivial ?_
                        refine AOps_end ?_
                        refine athen_n ?_
                        refine AT_ret ?_
                        have e_ := Option.some.inj h
                        subst e_
                        exact ⟨[bo (v16 == 0)], bo (v16 == 0), S, (.of (by kernel_rfl)), D.le.refl _, hB68, rfl, rfl⟩
                      · rw [if_f hc85] at h
                        refine AOps_seg 6 0x100 (mkS 137 [(8, bo false)]) none [] (by kernel_rfl) (by kernel_rfl) trivial ?_
                        refine AOps_end ?_
                        refine athen_n ?_
                        refine AT_ret ?_
                        have e_ := Option.some.inj h
                        subst e_
                        exact ⟨[bo false], bo false, S, (.of (by kernel_rfl)), D.le.refl _, hB68, rfl, rfl⟩
                  · rw [if_f hc83] at h
                    refine AOps_seg 13 0x100 (mkS 137 [(8, bo false)]) none [] (by kernel_rfl) (by kernel_rfl) trivial ?_
                    refine AOps_end ?_
                    refine athen_n ?_
                    refine AT_ret ?_
                    have e_ := Option.some.inj h
                    subst e_
                    exact ⟨[bo false], bo false, S, (.of (by kernel_rfl)), D.le.refl _, hB68, rfl, rfl⟩
end Go.Proofs.YtjapfalijpfmpaaGreatDoor.Abs
