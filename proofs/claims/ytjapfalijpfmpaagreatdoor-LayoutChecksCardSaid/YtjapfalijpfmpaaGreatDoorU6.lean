/- What functions of the program compute, each with the proof that it does (printed by wip/gen/all.py). -/
import Derived.Test.YtjapfalijpfmpaaGreatDoorU5
import Derived.KernelRfl
namespace Go.Proofs.YtjapfalijpfmpaaGreatDoor.Abs
open Go
set_option maxRecDepth 100000
def ref18_Spans.l0 : Nat → (List Span) → (List Span) → Int → Option (Bool)
  | 0, _, _, _ => none
  | k + 1, a0, a1, x4 => if (decide (x4 < (a0.length : Int))) = true then (if 0 ≤ x4 ∧ x4 < (a0.length : Int) then (if 0 ≤ x4 ∧ x4 < (a1.length : Int) then (if (!((((rd a0 x4 Span.zero).From) == ((rd a1 x4 Span.zero).From)) && ((((rd a0 x4 Span.zero).To) == ((rd a1 x4 Span.zero).To)) && true))) = true then (some false) else (ref18_Spans.l0 k a0 a1 (IntKind.wrap .i64 (x4 + 1)))) else none) else none) else (some true)
def ref18_Spans.f (k : Nat) (a0 : (List Span)) (a1 : (List Span)) : Option (Bool) := if ((a0.length : Int) != (a1.length : Int)) = true then (some false) else (ref18_Spans.l0 k a0 a1 0)
theorem ref18_Spans.mono_l : ∀ k, (∀ y0 y1 y2, LeO (ref18_Spans.l0 k y0 y1 y2) (ref18_Spans.l0 (k + 1) y0 y1 y2))
  | 0 => fun _ _ _ r h => (by simp only [ref18_Spans.l0] at h; cases h)
  | k + 1 => by
    have ih := ref18_Spans.mono_l k
    · intro y0 y1 y2
      rw [ref18_Spans.l0, ref18_Spans.l0]
      repeat' first
        | exact LeO.refl _
        | exact LeO.none _
        | exact ih _ _ _
        | refine LeO.ite ?_ ?_
        | refine LeO.bind ?_ (fun _ => ?_)
theorem ref18_Spans.mono (k : Nat) (a0 : (List Span)) (a1 : (List Span)) : LeO (ref18_Spans.f k a0 a1) (ref18_Spans.f (k + 1) a0 a1) := by
  unfold ref18_Spans.f
  repeat' first
    | exact LeO.refl _
    | exact LeO.none _
    | exact (ref18_Spans.mono_l k) _ _ _
    | refine LeO.ite ?_ ?_
    | refine LeO.bind ?_ (fun _ => ?_)
theorem ref18_Spans.ok (k : Nat) (a0 : (List Span)) (a1 : (List Span)) (S : Store) (r : Bool) (h : ref18_Spans.f k a0 a1 = some r) : ACalls Tryz.prog 14 [.sl 2 (a0.map Span.enc) none, .sl 2 (a1.map Span.enc) none] S (Ret (bo r) S) := by
  unfold ref18_Spans.f at h
  refine acalls_of Tryz.func14 rfl ?_
  have hB : S.le S := Store.le.refl S
  refine AT_forget 0x3 (mkS 26 [(0, .sl 2 (a0.map Span.enc) none), (1, .sl 2 (a1.map Span.enc) none)]) (by kernel_rfl) ?_
  refine AT_seq ?_
  refine AT_region ?_
  refine AOps_seg 1 0x3 (mkS 26 [(0, .sl 2 (a0.map Span.enc) none), (1, .sl 2 (a1.map Span.enc) none)]) none [] (by kernel_rfl) (by kernel_rfl) trivial ?_
  refine AOps_end ?_
  refine athen_n ?_
  refine AT_seq ?_
  refine AT_seq ?_
  refine AT_region ?_
  refine AOps_seg 2 0x83 (mkS 26 [(0, .sl 2 (a0.map Span.enc) none), (1, .sl 2 (a1.map Span.enc) none), (7, i64 ((a0.map Span.enc).length : Int))]) none [2, 3, 4] (by kernel_rfl) (by kernel_rfl) trivial ?_
  refine AOps_to (mkS 26 [(0, .sl 2 (a0.map Span.enc) none), (1, .sl 2 (a1.map Span.enc) none), (7, i64 (a0.length : Int))]) (by rw [List.length_map]) ?_
  refine AOps_seg 2 0x283 (mkS 26 [(0, .sl 2 (a0.map Span.enc) none), (1, .sl 2 (a1.map Span.enc) none), (7, i64 (a0.length : Int)), (9, i64 ((a1.map Span.enc).length : Int))]) none [4] (by kernel_rfl) (by kernel_rfl) trivial ?_
  refine AOps_to (mkS 26 [(0, .sl 2 (a0.map Span.enc) none), (1, .sl 2 (a1.map Span.enc) none), (7, i64 (a0.length : Int)), (9, i64 (a1.length : Int))]) (by rw [List.length_map]) ?_
  refine AOps_seg 1 0x403 (mkS 26 [(0, .sl 2 (a0.map Span.enc) none), (1, .sl 2 (a1.map Span.enc) none), (10, bo ((a0.length : Int) != (a1.length : Int)))]) none [] (by kernel_rfl) (by kernel_rfl) trivial ?_
  refine AOps_end ?_
  refine athen_n ?_
  refine AT_condS ((a0.length : Int) != (a1.length : Int)) (by kernel_rfl) (fun hc3 => ?_) (fun hc3 => ?_)
  · rw [if_t hc3] at h
    refine AT_seq ?_
    refine AT_region ?_
    refine AOps_seg 1 0x10 (mkS 26 [(4, bo false)]) none [] (by kernel_rfl) (by kernel_rfl) trivial ?_
    refine AOps_end ?_
    refine athen_n ?_
    refine AT_ret ?_
    refine athen_r ?_
    have e_ := Option.some.inj h
    subst e_
    exact ⟨[bo false], bo false, S, (.of (by kernel_rfl)), D.le.refl _, hB, rfl, rfl⟩
  · rw [if_f hc3] at h
    refine AT_skip ?_
    refine athen_n ?_
    refine AT_seq ?_
    refine AT_seq ?_
    refine AT_region ?_
    refine AOps_seg 1 0x23 (mkS 26 [(0, .sl 2 (a0.map Span.enc) none), (1, .sl 2 (a1.map Span.enc) none), (5, i64 0)]) none [] (by kernel_rfl) (by kernel_rfl) trivial ?_
    refine AOps_end ?_
    refine athen_n ?_
    refine AT_block ?_
    refine AT_loopM 0x23 (fun k_ sl_ S5 => ∃ (x4 : Int), sl_ = mkS 26 [(0, .sl 2 (a0.map Span.enc) none), (1, .sl 2 (a1.map Span.enc) none), (5, i64 x4)] ∧ ref18_Spans.l0 k_ a0 a1 x4 = some r ∧ S5.le S) k ⟨0, (by kernel_rfl), h, hB⟩ ?_
    rintro k' sl_ S5 ⟨x4, rfl, h, hB6⟩
    cases k' with
    | zero => cases h
    | succ k7 =>
      rw [ref18_Spans.l0] at h
      refine AT_seq ?_
      refine AT_seq ?_
      refine AT_region ?_
      refine AOps_seg 3 0x2823 (mkS 26 [(0, .sl 2 (a0.map Span.enc) none), (1, .sl 2 (a1.map Span.enc) none), (5, i64 x4), (11, i64 x4), (13, i64 ((a0.map Span.enc).length : Int))]) none [3] (by kernel_rfl) (by kernel_rfl) trivial ?_
      refine AOps_to (mkS 26 [(0, .sl 2 (a0.map Span.enc) none), (1, .sl 2 (a1.map Span.enc) none), (5, i64 x4), (11, i64 x4), (13, i64 (a0.length : Int))]) (by rw [List.length_map]) ?_
      refine AOps_seg 1 0x4023 (mkS 26 [(0, .sl 2 (a0.map Span.enc) none), (1, .sl 2 (a1.map Span.enc) none), (5, i64 x4), (14, bo (decide (x4 < (a0.length : Int))))]) none [] (by kernel_rfl) (by kernel_rfl) trivial ?_
      refine AOps_end ?_
      refine athen_n ?_
      refine AT_condS (decide (x4 < (a0.length : Int))) (by kernel_rfl) (fun hc9 => ?_) (fun hc9 => ?_)
      · rw [if_t hc9] at h
        refine AT_skip ?_
        refine athen_n ?_
        refine AT_seq ?_
        refine AT_block ?_
        refine AT_seq ?_
        refine AT_draw [] (by kernel_rfl) ?_
        refine AAny_seg 9 [] 0x3fe0023 (mkS 26 [(0, .sl 2 (a0.map Span.enc) none), (1, .sl 2 (a1.map Span.enc) none), (5, i64 x4)]) none #[false, false, false, false, false, false, false, false, false] (by kernel_rfl) trivial (by kernel_rfl) ?_
        by_cases hi10 : 0 ≤ x4 ∧ x4 < (a0.length : Int)
        rotate_left
        · rw [if_neg hi10] at h; cases h
        rw [if_pos hi10] at h
        refine AAny_seg 6 [0, 1, 2] 0x3f80023 (mkS 26 [(0, .sl 2 (a0.map Span.enc) none), (1, .sl 2 (a1.map Span.enc) none), (5, i64 x4), (19, .pt ((a0.map Span.enc).getD (x4 : Int).toNat []))]) (some (0 ≤ x4 ∧ x4 < ((a0.map Span.enc).length : Int))) #[true, true, true, false, false, false, false, false, false] (by kernel_rfl) (idx_ok hi10) (by kernel_rfl) ?_
        refine AAny_to (mkS 26 [(0, .sl 2 (a0.map Span.enc) none), (1, .sl 2 (a1.map Span.enc) none), (5, i64 x4), (19, .pt (Span.enc (rd a0 x4 Span.zero)))]) (by rw [pt_rd Span.enc a0 x4 Span.zero hi10.1 hi10.2]) ?_
        by_cases hi11 : 0 ≤ x4 ∧ x4 < (a1.length : Int)
        rotate_left
        · rw [if_neg hi11] at h; cases h
        rw [if_pos hi11] at h
        refine AAny_seg 2 [3, 4, 5, 6] 0x3900023 (mkS 26 [(0, .sl 2 (a0.map Span.enc) none), (1, .sl 2 (a1.map Span.enc) none), (5, i64 x4), (20, .ag (Span.enc (rd a0 x4 Span.zero))), (23, .pt ((a1.map Span.enc).getD (x4 : Int).toNat []))]) (some (0 ≤ x4 ∧ x4 < ((a1.map Span.enc).length : Int))) #[true, true, true, true, true, true, true, false, false] (by kernel_rfl) (idx_ok hi11) (by kernel_rfl) ?_
        refine AAny_to (mkS 26 [(0, .sl 2 (a0.map Span.enc) none), (1, .sl 2 (a1.map Span.enc) none), (5, i64 x4), (20, .ag (Span.enc (rd a0 x4 Span.zero))), (23, .pt (Span.enc (rd a1 x4 Span.zero)))]) (by rw [pt_rd Span.enc a1 x4 Span.zero hi11.1 hi11.2]) ?_
        refine AAny_seg 0 [7, 8] 0x2000023 (mkS 26 [(0, .sl 2 (a0.map Span.enc) none), (1, .sl 2 (a1.map Span.enc) none), (5, i64 x4), (25, bo (!((((rd a0 x4 Span.zero).From) == ((rd a1 x4 Span.zero).From)) && ((((rd a0 x4 Span.zero).To) == ((rd a1 x4 Span.zero).To)) && true))))]) none #[true, true, true, true, true, true, true, true, true] (by kernel_rfl) trivial (by kernel_rfl) ?_
        refine AAny_end (by kernel_rfl) ?_
        refine athen_n ?_
        refine AT_condS (!((((rd a0 x4 Span.zero).From) == ((rd a1 x4 Span.zero).From)) && ((((rd a0 x4 Span.zero).To) == ((rd a1 x4 Span.zero).To)) && true))) (by kernel_rfl) (fun hc12 => ?_) (fun hc12 => ?_)
        · rw [if_t hc12] at h
          refine AT_seq ?_
          refine AT_region ?_
          refine AOps_seg 1 0x10 (mkS 26 [(4, bo false)]) none [] (by kernel_rfl) (by kernel_rfl) trivial ?_
          refine AOps_end ?_
          refine athen_n ?_
          refine AT_ret ?_
          refine ablock_r ?_
          refine athen_r ?_
          refine athen_r ?_
          refine ablock_r ?_
          refine athen_r ?_
          have e_ := Option.some.inj h
          subst e_
          exact ⟨[bo false], bo false, S, (.of (by kernel_rfl)), D.le.refl _, hB6, rfl, rfl⟩
        · rw [if_f hc12] at h
          refine AT_skip ?_
          refine ablock_n ?_
          refine athen_n ?_
          refine AT_region ?_
          refine AOps_seg 3 0x23 (mkS 26 [(0, .sl 2 (a0.map Span.enc) none), (1, .sl 2 (a1.map Span.enc) none), (5, i64 (IntKind.wrap .i64 (x4 + 1)))]) none [] (by kernel_rfl) (by kernel_rfl) trivial ?_
          refine AOps_end ?_
          refine athen_n ?_
          exact ⟨k7, (by omega), IntKind.wrap .i64 (x4 + 1), (by kernel_rfl), h, hB6⟩
      · rw [if_f hc9] at h
        refine AT_exit ?_
        refine athen_e ?_
        refine athen_e ?_
        refine ablock_h ?_
        refine athen_n ?_
        refine AT_seq ?_
        refine AT_region ?_
        refine AOps_seg 1 0x10 (mkS 26 [(4, bo true)]) none [] (by kernel_rfl) (by kernel_rfl) trivial ?_
        refine AOps_end ?_
        refine athen_n ?_
        refine AT_ret ?_
        have e_ := Option.some.inj h
        subst e_
        exact ⟨[bo true], bo true, S, (.of (by kernel_rfl)), D.le.refl _, hB6, rfl, rfl⟩
def law18_LayoutCuts.f (k : Nat) (a0 : Int) (a1 : Int) (a2 : Int) (a3 : Int) (a4 : Int) : Option (Bool) := (law18_small.f k ).bind fun v1 => ((law18_Few.f a0 a1 a2).bind fun v3 => (if (!v3) = true then (some v1) else ((layout_Cut.f k a0 a1 a2).bind fun v6 => ((ref18_Cut.f k a0 a1 a2).bind fun v15 => ((layout_Over.f k v15 a3 a4).bind fun q_v26 => ((ref18_Over.f k v15 a3 a4).bind fun q_v30 => (if v1 = true then ((ref18_Spans.f k v6 v15).bind fun v35 => (if v35 = true then (if (q_v26.1 == q_v30.1) = true then (some (q_v26.2 == q_v30.2)) else (some false)) else (some false))) else (some false))))))))
theorem law18_LayoutCuts.mono (k : Nat) (a0 : Int) (a1 : Int) (a2 : Int) (a3 : Int) (a4 : Int) : LeO (law18_LayoutCuts.f k a0 a1 a2 a3 a4) (law18_LayoutCuts.f (k + 1) a0 a1 a2 a3 a4) := by
  unfold law18_LayoutCuts.f
  repeat' first
    | exact LeO.refl _
    | exact LeO.none _
    | exact layout_Cut.mono _ _ _ _
    | exact layout_Over.mono _ _ _ _
    | exact law18_small.mono _
    | exact ref18_Cut.mono _ _ _ _
    | exact ref18_Over.mono _ _ _ _
    | exact ref18_Spans.mono _ _ _
    | refine LeO.ite ?_ ?_
    | refine LeO.bind ?_ (fun _ => ?_)
theorem law18_LayoutCuts.ok (k : Nat) (a0 : Int) (a1 : Int) (a2 : Int) (a3 : Int) (a4 : Int) (S : Store) (r : Bool) (h : law18_LayoutCuts.f k a0 a1 a2 a3 a4 = some r) : ACalls Tryz.prog 3 [i64 a0, i64 a1, i64 a2, i64 a3, i64 a4] S (Ret (bo r) S) := by
  unfold law18_LayoutCuts.f at h
  refine acalls_of Tryz.func3 rfl ?_
  have hB : S.le S := Store.le.refl S
  refine AT_forget 0x1f (mkS 65 [(0, i64 a0), (1, i64 a1), (2, i64 a2), (3, i64 a3), (4, i64 a4)]) (by kernel_rfl) ?_
  refine AT_seq ?_
  refine AT_region ?_
  refine AOps_seg 1 0x1f (mkS 65 [(0, i64 a0), (1, i64 a1), (2, i64 a2), (3, i64 a3), (4, i64 a4)]) none [] (by kernel_rfl) (by kernel_rfl) trivial ?_
  refine AOps_end ?_
  refine athen_n ?_
  refine AT_seq ?_
  refine AT_region ?_
  obtain ⟨v1, ht2, h⟩ := Option.bind_eq_some_iff.1 h
  refine AOps_callR _ [] (tl_get rfl) rfl rfl rfl rfl Tryz.func8 (by decide) rfl ((.nil)) (law18_small.ok _  S _ ht2) ?_
  rintro _ _ ⟨rfl, e_⟩
  obtain rfl := e_.symm
  refine AOps_forget 0x8001f (mkS 65 [(0, i64 a0), (1, i64 a1), (2, i64 a2), (3, i64 a3), (4, i64 a4), (19, bo v1)]) (by kernel_rfl) ?_
  refine AOps_seg 1 0x81f (mkS 65 [(0, i64 a0), (1, i64 a1), (2, i64 a2), (3, i64 a3), (4, i64 a4), (11, bo v1)]) none [] (by kernel_rfl) (by kernel_rfl) trivial ?_
  refine AOps_end ?_
  refine athen_n ?_
  refine AT_seq ?_
  refine AT_region ?_
  refine AOps_seg 3 0x70081f (mkS 65 [(0, i64 a0), (1, i64 a1), (2, i64 a2), (3, i64 a3), (4, i64 a4), (11, bo v1), (20, i64 a0), (21, i64 a1), (22, i64 a2)]) none [3, 4] (by kernel_rfl) (by kernel_rfl) trivial ?_
  obtain ⟨v3, ht4, h⟩ := Option.bind_eq_some_iff.1 h
  refine AOps_callR _ [i64 a0, i64 a1, i64 a2] (tl_get rfl) rfl rfl rfl rfl Tryz.func9 (by decide) rfl ((.cons (D.le.refl _) (.cons (D.le.refl _) (.cons (D.le.refl _) (.nil))))) (law18_Few.ok a0 a1 a2 S _ ht4) ?_
  rintro _ _ ⟨rfl, e_⟩
  obtain rfl := e_.symm
  refine AOps_forget 0x80081f (mkS 65 [(0, i64 a0), (1, i64 a1), (2, i64 a2), (3, i64 a3), (4, i64 a4), (11, bo v1), (23, bo v3)]) (by kernel_rfl) ?_
  refine AOps_seg 1 0x181f (mkS 65 [(0, i64 a0), (1, i64 a1), (2, i64 a2), (3, i64 a3), (4, i64 a4), (11, bo v1), (12, bo v3)]) none [] (by kernel_rfl) (by kernel_rfl) trivial ?_
  refine AOps_end ?_
  refine athen_n ?_
  refine AT_seq ?_
  refine AT_seq ?_
  refine AT_region ?_
  refine AOps_seg 2 0x200081f (mkS 65 [(0, i64 a0), (1, i64 a1), (2, i64 a2), (3, i64 a3), (4, i64 a4), (11, bo v1), (25, bo (!v3))]) none [] (by kernel_rfl) (by kernel_rfl) trivial ?_
  refine AOps_end ?_
  refine athen_n ?_
  refine AT_condS (!v3) (by kernel_rfl) (fun hc5 => ?_) (fun hc5 => ?_)
  · rw [if_t hc5] at h
    refine AT_seq ?_
    refine AT_region ?_
    refine AOps_seg 2 0x400 (mkS 65 [(10, bo v1)]) none [] (by kernel_rfl) (by kernel_rfl) trivial ?_
    refine AOps_end ?_
    refine athen_n ?_
    refine AT_ret ?_
    refine athen_r ?_
    have e_ := Option.some.inj h
    subst e_
    exact ⟨[bo v1], bo v1, S, (.of (by kernel_rfl)), D.le.refl _, hB, rfl, rfl⟩
  · rw [if_f hc5] at h
    refine AT_skip ?_
    refine athen_n ?_
    refine AT_seq ?_
    refine AT_region ?_
    refine AOps_seg 3 0x3800081f (mkS 65 [(0, i64 a0), (1, i64 a1), (2, i64 a2), (3, i64 a3), (4, i64 a4), (11, bo v1), (27, i64 a0), (28, i64 a1), (29, i64 a2)]) none [3, 4] (by kernel_rfl) (by kernel_rfl) trivial ?_
    obtain ⟨v6, ht7, h⟩ := Option.bind_eq_some_iff.1 h
    refine AOps_callR _ [i64 a0, i64 a1, i64 a2] (tl_get rfl) rfl rfl rfl rfl Tryz.func10 (by decide) rfl ((.cons (D.le.refl _) (.cons (D.le.refl _) (.cons (D.le.refl _) (.nil))))) (layout_Cut.ok _ a0 a1 a2 S _ ht7) ?_
    rintro _ S10 ⟨t8, hf9, rfl, e_⟩
    have u11 : Upd _ S10 t8 _ := e_ ▸ Upd.mk' _ _ _
    clear e_
    have ff12 := fresh_le hB hf9
    have at13 := u11.at_
    have hB14 := u11.le hB ff12
    refine AOps_forget 0x4000081f (mkS 65 [(0, i64 a0), (1, i64 a1), (2, i64 a2), (3, i64 a3), (4, i64 a4), (11, bo v1), (30, .sl 2 (v6.map Span.enc) (some t8))]) (by kernel_rfl) ?_
    refine AOps_seg 1 0x281f (mkS 65 [(0, i64 a0), (1, i64 a1), (2, i64 a2), (3, i64 a3), (4, i64 a4), (11, bo v1), (13, .sl 2 (v6.map Span.enc) (some t8))]) none [] (by kernel_rfl) (by kernel_rfl) trivial ?_
    refine AOps_end ?_
    refine athen_n ?_
    refine AT_seq ?_
    refine AT_region ?_
    refine AOps_seg 3 0x380002818 (mkS 65 [(3, i64 a3), (4, i64 a4), (11, bo v1), (13, .sl 2 (v6.map Span.enc) (some t8)), (31, i64 a0), (32, i64 a1), (33, i64 a2)]) none [3, 4] (by kernel_rfl) (by kernel_rfl) trivial ?_
    obtain ⟨v15, ht16, h⟩ := Option.bind_eq_some_iff.1 h
    refine AOps_callR _ [i64 a0, i64 a1, i64 a2] (tl_get rfl) rfl rfl rfl rfl Tryz.func11 (by decide) rfl ((.cons (D.le.refl _) (.cons (D.le.refl _) (.cons (D.le.refl _) (.nil))))) (ref18_Cut.ok _ a0 a1 a2 S10 _ ht16) ?_
    rintro _ S19 ⟨t17, hf18, rfl, e_⟩
    have u20 : Upd _ S19 t17 _ := e_ ▸ Upd.mk' _ _ _
    clear e_
    have ff21 := fresh_le hB14 hf18
    have ne22 := ne_of_fresh at13 hf18
    have at23 := u20.tk at13 ne22
    have at24 := u20.at_
    have hB25 := u20.le hB14 ff21
    refine AOps_forget 0x400002818 (mkS 65 [(3, i64 a3), (4, i64 a4), (11, bo v1), (13, .sl 2 (v6.map Span.enc) (some t8)), (34, .sl 2 (v15.map Span.enc) (some t17))]) (by kernel_rfl) ?_
    refine AOps_seg 1 0x6818 (mkS 65 [(3, i64 a3), (4, i64 a4), (11, bo v1), (13, .sl 2 (v6.map Span.enc) (some t8)), (14, .sl 2 (v15.map Span.enc) (some t17))]) none [] (by kernel_rfl) (by kernel_rfl) trivial ?_
    refine AOps_end ?_
    refine athen_n ?_
    refine AT_seq ?_
    refine AT_region ?_
    refine AOps_seg 3 0x7000006818 (mkS 65 [(3, i64 a3), (4, i64 a4), (11, bo v1), (13, .sl 2 (v6.map Span.enc) (some t8)), (14, .sl 2 (v15.map Span.enc) (some t17)), (36, .sl 2 (v15.map Span.enc) (some t17)), (37, i64 a3), (38, i64 a4)]) none [3, 4, 5, 6, 7, 8] (by kernel_rfl) (by kernel_rfl) trivial ?_
    obtain ⟨⟨v26, v27⟩, ht28, h⟩ := Option.bind_eq_some_iff.1 h
    simp only at h
    refine AOps_callR _ [.sl 2 (v15.map Span.enc) none, i64 a3, i64 a4] (tl_get rfl) rfl rfl rfl rfl Tryz.func12 (by decide) rfl ((.cons (sl_le) (.cons (D.le.refl _) (.cons (D.le.refl _) (.nil))))) (layout_Over.ok _ v15 a3 a4 S19 _ _ ht28) ?_
    rintro _ S29 ⟨_, rfl, ⟨_, rfl, ⟨_, rfl, ⟨rfl, e_⟩⟩⟩⟩
    obtain rfl := e_.symm
    refine AOps_forget 0x8000006818 (mkS 65 [(3, i64 a3), (4, i64 a4), (11, bo v1), (13, .sl 2 (v6.map Span.enc) (some t8)), (14, .sl 2 (v15.map Span.enc) (some t17)), (39, .tup [i64 v26, i64 v27])]) (by kernel_rfl) ?_
    refine AOps_seg 5 0x1e818 (mkS 65 [(3, i64 a3), (4, i64 a4), (11, bo v1), (13, .sl 2 (v6.map Span.enc) (some t8)), (14, .sl 2 (v15.map Span.enc) (some t17)), (15, i64 v26), (16, i64 v27)]) none [] (by kernel_rfl) (by kernel_rfl) trivial ?_
    refine AOps_end ?_
    refine athen_n ?_
    refine AT_seq ?_
    refine AT_region ?_
    refine AOps_seg 3 0x38000001e800 (mkS 65 [(11, bo v1), (13, .sl 2 (v6.map Span.enc) (some t8)), (14, .sl 2 (v15.map Span.enc) (some t17)), (15, i64 v26), (16, i64 v27), (43, .sl 2 (v15.map Span.enc) (some t17)), (44, i64 a3), (45, i64 a4)]) none [3, 4, 5, 6, 7, 8] (by kernel_rfl) (by kernel_rfl) trivial ?_
    obtain ⟨⟨v30, v31⟩, ht32, h⟩ := Option.bind_eq_some_iff.1 h
    simp only at h
    refine AOps_callR _ [.sl 2 (v15.map Span.enc) none, i64 a3, i64 a4] (tl_get rfl) rfl rfl rfl rfl Tryz.func13 (by decide) rfl ((.cons (sl_le) (.cons (D.le.refl _) (.cons (D.le.refl _) (.nil))))) (ref18_Over.ok _ v15 a3 a4 S19 _ _ ht32) ?_
    rintro _ S33 ⟨_, rfl, ⟨_, rfl, ⟨_, rfl, ⟨rfl, e_⟩⟩⟩⟩
    obtain rfl := e_.symm
    refine AOps_forget 0x40000001e800 (mkS 65 [(11, bo v1), (13, .sl 2 (v6.map Span.enc) (some t8)), (14, .sl 2 (v15.map Span.enc) (some t17)), (15, i64 v26), (16, i64 v27), (46, .tup [i64 v30, i64 v31])]) (by kernel_rfl) ?_
    refine AOps_seg 5 0x7e800 (mkS 65 [(11, bo v1), (13, .sl 2 (v6.map Span.enc) (some t8)), (14, .sl 2 (v15.map Span.enc) (some t17)), (15, i64 v26), (16, i64 v27), (17, i64 v30), (18, i64 v31)]) none [] (by kernel_rfl) (by kernel_rfl) trivial ?_
    refine AOps_end ?_
    refine athen_n ?_
    refine AT_seq ?_
    refine AT_region ?_
    refine AOps_seg 2 0x400000007e000 (mkS 65 [(13, .sl 2 (v6.map Span.enc) (some t8)), (14, .sl 2 (v15.map Span.enc) (some t17)), (15, i64 v26), (16, i64 v27), (17, i64 v30), (18, i64 v31), (50, bo v1)]) none [2, 3, 4, 5, 6, 7, 8, 9, 10, 11, 12, 13, 14, 15, 16] (by kernel_rfl) (by kernel_rfl) trivial ?_
    refine AOps_caseS 50 v1 (by kernel_rfl) (mkS 65 [(13, .sl 2 (v6.map Span.enc) (some t8)), (14, .sl 2 (v15.map Span.enc) (some t17)), (15, i64 v26), (16, i64 v27), (17, i64 v30), (18, i64 v31), (50, bo true)]) (mkS 65 [(13, .sl 2 (v6.map Span.enc) (some t8)), (14, .sl 2 (v15.map Span.enc) (some t17)), (15, i64 v26), (16, i64 v27), (17, i64 v30), (18, i64 v31), (50, bo false)]) (by kernel_rfl) (by kernel_rfl) (fun hc34 => ?_) (fun hc34 => ?_)
    · rw [if_t hc34] at h
      refine AOps_seg 2 0x1c000000078000 (mkS 65 [(15, i64 v26), (16, i64 v27), (17, i64 v30), (18, i64 v31), (50, bo true), (51, .sl 2 (v6.map Span.enc) (some t8)), (52, .sl 2 (v15.map Span.enc) (some t17))]) none [4, 5, 6, 7, 8, 9, 10, 11, 12, 13, 14, 15, 16] (by kernel_rfl) (by kernel_rfl) trivial ?_
      obtain ⟨v35, ht36, h⟩ := Option.bind_eq_some_iff.1 h
      refine AOps_callR _ [.sl 2 (v6.map Span.enc) none, .sl 2 (v15.map Span.enc) none] (tl_get rfl) rfl rfl rfl rfl Tryz.func14 (by decide) rfl ((.cons (sl_le) (.cons (sl_le) (.nil)))) (ref18_Spans.ok _ v6 v15 S19 _ ht36) ?_
      rintro _ _ ⟨rfl, e_⟩
      obtain rfl := e_.symm
      refine AOps_forget 0x24000000078000 (mkS 65 [(15, i64 v26), (16, i64 v27), (17, i64 v30), (18, i64 v31), (50, bo true), (53, bo v35)]) (by kernel_rfl) ?_
      refine AOps_seg 2 0x80000000078000 (mkS 65 [(15, i64 v26), (16, i64 v27), (17, i64 v30), (18, i64 v31), (55, bo v35)]) none [7, 8, 9, 10, 11, 12, 13, 14, 15, 16] (by kernel_rfl) (by kernel_rfl) trivial ?_
      refine AOps_caseS 55 v35 (by kernel_rfl) (mkS 65 [(15, i64 v26), (16, i64 v27), (17, i64 v30), (18, i64 v31), (55, bo true)]) (mkS 65 [(15, i64 v26), (16, i64 v27), (17, i64 v30), (18, i64 v31), (55, bo false)]) (by kernel_rfl) (by kernel_rfl) (fun hc37 => ?_) (fun hc37 => ?_)
      · rw [if_t hc37] at h
        refine AOps_seg 5 0x1000000000050000 (mkS 65 [(16, i64 v27), (18, i64 v31), (60, bo (v26 == v30))]) none [12, 13, 14, 15, 16] (by kernel_rfl) (by kernel_rfl) trivial ?_
        refine AOps_caseS 60 (v26 == v30) (by kernel_rfl) (mkS 65 [(16, i64 v27), (18, i64 v31), (60, bo true)]) (mkS 65 [(16, i64 v27), (18, i64 v31), (60, bo false)]) (by kernel_rfl) (by kernel_rfl) (fun hc38 => ?_) (fun hc38 => ?_)
        · rw [if_t hc38] at h
          refine AOps_seg 5 0x400 (mkS 65 [(10, bo (v27 == v31))]) none [] (by kernel_rfl) (by kernel_rfl) trivial ?_
          refine AOps_end ?_
          refine athen_n ?_
          refine AT_ret ?_
          have e_ := Option.some.inj h
          subst e_
          exact ⟨[bo (v27 == v31)], bo (v27 == v31), S, (.of (by kernel_rfl)), D.le.refl _, hB25, rfl, rfl⟩
        · rw [if_f hc38] at h
          refine AOps_seg 5 0x400 (mkS 65 [(10, bo false)]) none [] (by kernel_rfl) (by kernel_rfl) trivial ?_
          refine AOps_end ?_
          refine athen_n ?_
          refine AT_ret ?_
          have e_ := Option.some.inj h
          subst e_
          exact ⟨[bo false], bo false, S, (.of (by kernel_rfl)), D.le.refl _, hB25, rfl, rfl⟩
      · rw [if_f hc37] at h
        refine AOps_seg 10 0x400 (mkS 65 [(10, bo false)]) none [] (by kernel_rfl) (by kernel_rfl) trivial ?_
        refine AOps_end ?_
        refine athen_n ?_
        refine AT_ret ?_
        have e_ := Option.some.inj h
        subst e_
        exact ⟨[bo false], bo false, S, (.of (by kernel_rfl)), D.le.refl _, hB25, rfl, rfl⟩
    · rw [if_f hc34] at h
      refine AOps_seg 15 0x400 (mkS 65 [(10, bo false)]) none [] (by kernel_rfl) (by kernel_rfl) trivial ?_
      refine AOps_end ?_
      refine athen_n ?_
      refine AT_ret ?_
      have e_ := Option.some.inj h
      subst e_
      exact ⟨[bo false], bo false, S, (.of (by kernel_rfl)), D.le.refl _, hB25, rfl, rfl⟩
def ref14_Fits.j0 : Nat → Int → Int → Bool → Option (Bool)
  | 0, _, _, _ => none
  | k + 1, a0, a1, x6 => if x6 = true then (some true) else (if (a1 == 2) = true then (if (a0 == 0) = true then (some true) else (some (a0 == 1))) else (if (a1 == 3) = true then (if (a0 == 0) = true then (some true) else (some (a0 == 3))) else (if (a1 == 4) = true then (some (a0 == 2)) else (some false))))
def ref14_Fits.f (k : Nat) (a0 : Int) (a1 : Int) : Option (Bool) := if (decide (a0 < 0)) = true then (some false) else (if (decide (a0 > 3)) = true then (some false) else (if (a1 == 0) = true then (ref14_Fits.j0 k a0 a1 (a1 == 0)) else (ref14_Fits.j0 k a0 a1 (a1 == 1))))
theorem ref14_Fits.mono_l : ∀ k, (∀ y0 y1 y2, LeO (ref14_Fits.j0 k y0 y1 y2) (ref14_Fits.j0 (k + 1) y0 y1 y2))
  | 0 => fun _ _ _ r h => (by simp only [ref14_Fits.j0] at h; cases h)
  | k + 1 => by
    have ih := ref14_Fits.mono_l k
    · intro y0 y1 y2
      rw [ref14_Fits.j0, ref14_Fits.j0]
      repeat' first
        | exact LeO.refl _
        | exact LeO.none _
        | exact ih _ _ _
        | refine LeO.ite ?_ ?_
        | refine LeO.bind ?_ (fun _ => ?_)
theorem ref14_Fits.mono (k : Nat) (a0 : Int) (a1 : Int) : LeO (ref14_Fits.f k a0 a1) (ref14_Fits.f (k + 1) a0 a1) := by
  unfold ref14_Fits.f
  repeat' first
    | exact LeO.refl _
    | exact LeO.none _
    | exact (ref14_Fits.mono_l k) _ _ _
    | refine LeO.ite ?_ ?_
    | refine LeO.bind ?_ (fun _ => ?_)
theorem ref14_Fits.ok (k : Nat) (a0 : Int) (a1 : Int) (S : Store) (r : Bool) (h : ref14_Fits.f k a0 a1 = some r) : ACalls Tryz.prog 22 [i64 a0, i64 a1] S (Ret (bo r) S) := by
  unfold ref14_Fits.f at h
  refine acalls_of Tryz.func22 rfl ?_
  have hB : S.le S := Store.le.refl S
  refine AT_forget 0x3 (mkS 35 [(0, i64 a0), (1, i64 a1)]) (by kernel_rfl) ?_
  refine AT_seq ?_
  refine AT_region ?_
  refine AOps_seg 1 0x3 (mkS 35 [(0, i64 a0), (1, i64 a1)]) none [] (by kernel_rfl) (by kernel_rfl) trivial ?_
  refine AOps_end ?_
  refine athen_n ?_
  refine AT_seq ?_
  refine AT_seq ?_
  refine AT_region ?_
  refine AOps_seg 3 0x83 (mkS 35 [(0, i64 a0), (1, i64 a1), (7, bo (decide (a0 < 0)))]) none [3, 4, 5] (by kernel_rfl) (by kernel_rfl) trivial ?_
  refine AOps_caseS 7 (decide (a0 < 0)) (by kernel_rfl) (mkS 35 [(0, i64 a0), (1, i64 a1), (7, bo true)]) (mkS 35 [(0, i64 a0), (1, i64 a1), (7, bo false)]) (by kernel_rfl) (by kernel_rfl) (fun hc3 => ?_) (fun hc3 => ?_)
  · rw [if_t hc3] at h
    refine AOps_seg 3 0x403 (mkS 35 [(0, i64 a0), (1, i64 a1), (10, bo true)]) none [] (by kernel_rfl) (by kernel_rfl) trivial ?_
    refine AOps_end ?_
    refine athen_n ?_
    refine AT_cond_t (by kernel_rfl) ?_
    refine AT_seq ?_
    refine AT_region ?_
    refine AOps_seg 1 0x10 (mkS 35 [(4, bo false)]) none [] (by kernel_rfl) (by kernel_rfl) trivial ?_
    refine AOps_end ?_
    refine athen_n ?_
    refine AT_ret ?_
    refine athen_r ?_
    have e_ := Option.some.inj h
    subst e_
    exact ⟨[bo false], bo false, S, (.of (by kernel_rfl)), D.le.refl _, hB, rfl, rfl⟩
  · rw [if_f hc3] at h
    refine AOps_seg 3 0x403 (mkS 35 [(0, i64 a0), (1, i64 a1), (10, bo (decide (a0 > 3)))]) none [] (by kernel_rfl) (by kernel_rfl) trivial ?_
    refine AOps_end ?_
    refine athen_n ?_
    refine AT_condS (decide (a0 > 3)) (by kernel_rfl) (fun hc4 => ?_) (fun hc4 => ?_)
    · rw [if_t hc4] at h
      refine AT_seq ?_
      refine AT_region ?_
      refine AOps_seg 1 0x10 (mkS 35 [(4, bo false)]) none [] (by kernel_rfl) (by kernel_rfl) trivial ?_
      refine AOps_end ?_
      refine athen_n ?_
      refine AT_ret ?_
      refine athen_r ?_
      have e_ := Option.some.inj h
      subst e_
      exact ⟨[bo false], bo false, S, (.of (by kernel_rfl)), D.le.refl _, hB, rfl, rfl⟩
    · rw [if_f hc4] at h
      refine AT_skip ?_
      refine athen_n ?_
      refine AT_seq ?_
      refine AT_seq ?_
      refine AT_region ?_
      refine AOps_seg 1 0x801 (mkS 35 [(0, i64 a0), (11, i64 a1)]) none [] (by kernel_rfl) (by kernel_rfl) trivial ?_
      refine AOps_end ?_
      refine athen_n ?_
      refine AT_block ?_
      refine AT_cutM 0x1801 (fun sl_ S7 => ∃ (x6 : Bool), sl_ = mkS 35 [(0, i64 a0), (11, i64 a1), (12, bo x6)] ∧ ref14_Fits.j0 k a0 a1 x6 = some r ∧ S7.le S) ?_ ?_
      · refine AT_seq ?_
        refine AT_region ?_
        refine AOps_seg 2 0x1801 (mkS 35 [(0, i64 a0), (11, i64 a1), (12, bo (a1 == 0))]) none [] (by kernel_rfl) (by kernel_rfl) trivial ?_
        refine AOps_end ?_
        refine athen_n ?_
        refine AT_condS (a1 == 0) (by kernel_rfl) (fun hc9 => ?_) (fun hc9 => ?_)
        · rw [if_t hc9] at h
          refine AT_skip ?_
          refine athen_n ?_
          exact ⟨a1 == 0, (by kernel_rfl), h, hB⟩
        · rw [if_f hc9] at h
          refine AT_region ?_
          refine AOps_seg 2 0x1801 (mkS 35 [(0, i64 a0), (11, i64 a1), (12, bo (a1 == 1))]) none [] (by kernel_rfl) (by kernel_rfl) trivial ?_
          refine AOps_end ?_
          refine athen_n ?_
          exact ⟨a1 == 1, (by kernel_rfl), h, hB⟩
      · clear h
        rintro sl_ S7 ⟨x6, rfl, h, hB8⟩
        cases k with
        | zero => cases h
        | succ k10 =>
          rw [ref14_Fits.j0] at h
          refine AT_condS x6 (by kernel_rfl) (fun hc11 => ?_) (fun hc11 => ?_)
          · rw [if_t hc11] at h
            refine AT_seq ?_
            refine AT_region ?_
            refine AOps_seg 1 0x10 (mkS 35 [(4, bo true)]) none [] (by kernel_rfl) (by kernel_rfl) trivial ?_
            refine AOps_end ?_
            refine athen_n ?_
            refine AT_ret ?_
            refine ablock_r ?_
            refine athen_r ?_
            have e_ := Option.some.inj h
            subst e_
            exact ⟨[bo true], bo true, S, (.of (by kernel_rfl)), D.le.refl _, hB8, rfl, rfl⟩
          · rw [if_f hc11] at h
            refine AT_seq ?_
            refine AT_region ?_
            refine AOps_seg 2 0x8801 (mkS 35 [(0, i64 a0), (11, i64 a1), (15, bo (a1 == 2))]) none [] (by kernel_rfl) (by kernel_rfl) trivial ?_
            refine AOps_end ?_
            refine athen_n ?_
            refine AT_condS (a1 == 2) (by kernel_rfl) (fun hc12 => ?_) (fun hc12 => ?_)
            · rw [if_t hc12] at h
              refine AT_seq ?_
              refine AT_region ?_
              refine AOps_seg 3 0x80001 (mkS 35 [(0, i64 a0), (19, bo (a0 == 0))]) none [3, 4, 5, 6] (by kernel_rfl) (by kernel_rfl) trivial ?_
              refine AOps_caseS 19 (a0 == 0) (by kernel_rfl) (mkS 35 [(0, i64 a0), (19, bo true)]) (mkS 35 [(0, i64 a0), (19, bo false)]) (by kernel_rfl) (by kernel_rfl) (fun hc13 => ?_) (fun hc13 => ?_)
              · rw [if_t hc13] at h
                refine AOps_seg 4 0x10 (mkS 35 [(4, bo true)]) none [] (by kernel_rfl) (by kernel_rfl) trivial ?_
                refine AOps_end ?_
                refine athen_n ?_
                refine AT_ret ?_
                refine ablock_r ?_
                refine athen_r ?_
                have e_ := Option.some.inj h
                subst e_
                exact ⟨[bo true], bo true, S, (.of (by kernel_rfl)), D.le.refl _, hB8, rfl, rfl⟩
              · rw [if_f hc13] at h
                refine AOps_seg 4 0x10 (mkS 35 [(4, bo (a0 == 1))]) none [] (by kernel_rfl) (by kernel_rfl) trivial ?_
                refine AOps_end ?_
                refine athen_n ?_
                refine AT_ret ?_
                refine ablock_r ?_
                refine athen_r ?_
                have e_ := Option.some.inj h
                subst e_
                exact ⟨[bo (a0 == 1)], bo (a0 == 1), S, (.of (by kernel_rfl)), D.le.refl _, hB8, rfl, rfl⟩
            · rw [if_f hc12] at h
              refine AT_seq ?_
              refine AT_region ?_
              refine AOps_seg 2 0x800801 (mkS 35 [(0, i64 a0), (11, i64 a1), (23, bo (a1 == 3))]) none [] (by kernel_rfl) (by kernel_rfl) trivial ?_
              refine AOps_end ?_
              refine athen_n ?_
              refine AT_condS (a1 == 3) (by kernel_rfl) (fun hc14 => ?_) (fun hc14 => ?_)
              · rw [if_t hc14] at h
                refine AT_seq ?_
                refine AT_region ?_
                refine AOps_seg 3 0x8000001 (mkS 35 [(0, i64 a0), (27, bo (a0 == 0))]) none [3, 4, 5, 6] (by kernel_rfl) (by kernel_rfl) trivial ?_
                refine AOps_caseS 27 (a0 == 0) (by kernel_rfl) (mkS 35 [(0, i64 a0), (27, bo true)]) (mkS 35 [(0, i64 a0), (27, bo false)]) (by kernel_rfl) (by kernel_rfl) (fun hc15 => ?_) (fun hc15 => ?_)
                · rw [if_t hc15] at h
                  refine AOps_seg 4 0x10 (mkS 35 [(4, bo true)]) none [] (by kernel_rfl) (by kernel_rfl) trivial ?_
                  refine AOps_end ?_
                  refine athen_n ?_
                  refine AT_ret ?_
                  refine ablock_r ?_
                  refine athen_r ?_
                  have e_ := Option.some.inj h
                  subst e_
                  exact ⟨[bo true], bo true, S, (.of (by kernel_rfl)), D.le.refl _, hB8, rfl, rfl⟩
                · rw [if_f hc15] at h
                  refine AOps_seg 4 0x10 (mkS 35 [(4, bo (a0 == 3))]) none [] (by kernel_rfl) (by kernel_rfl) trivial ?_
                  refine AOps_end ?_
                  refine athen_n ?_
                  refine AT_ret ?_
                  refine ablock_r ?_
                  refine athen_r ?_
                  have e_ := Option.some.inj h
                  subst e_
                  exact ⟨[bo (a0 == 3)], bo (a0 == 3), S, (.of (by kernel_rfl)), D.le.refl _, hB8, rfl, rfl⟩
              · rw [if_f hc14] at h
                refine AT_seq ?_
                refine AT_region ?_
                refine AOps_seg 2 0x80000001 (mkS 35 [(0, i64 a0), (31, bo (a1 == 4))]) none [] (by kernel_rfl) (by kernel_rfl) trivial ?_
                refine AOps_end ?_
                refine athen_n ?_
                refine AT_condS (a1 == 4) (by kernel_rfl) (fun hc16 => ?_) (fun hc16 => ?_)
                · rw [if_t hc16] at h
                  refine AT_seq ?_
                  refine AT_region ?_
                  refine AOps_seg 3 0x10 (mkS 35 [(4, bo (a0 == 2))]) none [] (by kernel_rfl) (by kernel_rfl) trivial ?_
                  refine AOps_end ?_
                  refine athen_n ?_
                  refine AT_ret ?_
                  refine ablock_r ?_
                  refine athen_r ?_
                  have e_ := Option.some.inj h
                  subst e_
                  exact ⟨[bo (a0 == 2)], bo (a0 == 2), S, (.of (by kernel_rfl)), D.le.refl _, hB8, rfl, rfl⟩
                · rw [if_f hc16] at h
                  refine AT_skip ?_
                  refine ablock_n ?_
                  refine athen_n ?_
                  refine AT_seq ?_
                  refine AT_region ?_
                  refine AOps_seg 1 0x10 (mkS 35 [(4, bo false)]) none [] (by kernel_rfl) (by kernel_rfl) trivial ?_
                  refine AOps_end ?_
                  refine athen_n ?_
                  refine AT_ret ?_
                  have e_ := Option.some.inj h
                  subst e_
                  exact ⟨[bo false], bo false, S, (.of (by kernel_rfl)), D.le.refl _, hB8, rfl, rfl⟩
def ref18_Check.l0 : Nat → Conf → (List Col) → Int → Option (Int)
  | 0, _, _, _ => none
  | k + 1, a0, a1, x15 => if (decide (x15 < (a1.length : Int))) = true then (if 0 ≤ x15 ∧ x15 < (a1.length : Int) then (if 0 ≤ x15 ∧ x15 < (a0.Encs.length : Int) then ((ref14_Fits.f k ((rd a1 x15 Col.zero).Type_) (rd a0.Encs x15 0)).bind fun v23 => (if 0 ≤ x15 ∧ x15 < (a0.Encs.length : Int) then (if ((rd a0.Encs x15 0) != (-1)) = true then (if (!v23) = true then (some 3) else (ref18_Check.l0 k a0 a1 (IntKind.wrap .i64 (x15 + 1)))) else (ref18_Check.l0 k a0 a1 (IntKind.wrap .i64 (x15 + 1)))) else none)) else none) else none) else (some 0)
def ref18_Check.f (k : Nat) (a0 : Conf) (a1 : (List Col)) : Option (Int) := if (decide (a0.GroupRows < 1)) = true then (some 1) else (if (decide (a0.GroupRows > 65536)) = true then (some 1) else (if (decide (a0.PageRows < 1)) = true then (some 1) else (if (decide (a0.PageRows > 65536)) = true then (some 1) else (if ((a0.Encs.length : Int) != (a1.length : Int)) = true then (some 1) else (ref18_Check.l0 k a0 a1 0)))))
theorem ref18_Check.mono_l : ∀ k, (∀ y0 y1 y2, LeO (ref18_Check.l0 k y0 y1 y2) (ref18_Check.l0 (k + 1) y0 y1 y2))
  | 0 => fun _ _ _ r h => (by simp only [ref18_Check.l0] at h; cases h)
  | k + 1 => by
    have ih := ref18_Check.mono_l k
    · intro y0 y1 y2
      rw [ref18_Check.l0, ref18_Check.l0]
      repeat' first
        | exact LeO.refl _
        | exact LeO.none _
        | exact ih _ _ _
        | exact ref14_Fits.mono _ _ _
        | refine LeO.ite ?_ ?_
        | refine LeO.bind ?_ (fun _ => ?_)
theorem ref18_Check.mono (k : Nat) (a0 : Conf) (a1 : (List Col)) : LeO (ref18_Check.f k a0 a1) (ref18_Check.f (k + 1) a0 a1) := by
  unfold ref18_Check.f
  repeat' first
    | exact LeO.refl _
    | exact LeO.none _
    | exact (ref18_Check.mono_l k) _ _ _
    | exact ref14_Fits.mono _ _ _
    | refine LeO.ite ?_ ?_
    | refine LeO.bind ?_ (fun _ => ?_)
theorem ref18_Check.ok (k : Nat) (a0 : Conf) (a1 : (List Col)) (S : Store) (r : Int) (h : ref18_Check.f k a0 a1 = some r) : ACalls Tryz.prog 16 [.ag (Conf.enc a0), .sl 3 (a1.map Col.enc) none] S (Ret (i64 r) S) := by
  unfold ref18_Check.f at h
  refine acalls_of Tryz.func16 rfl ?_
  have hB : S.le S := Store.le.refl S
  refine AT_forget 0x3 (mkS 60 [(0, .ag (Conf.enc a0)), (1, .sl 3 (a1.map Col.enc) none)]) (by kernel_rfl) ?_
  refine AT_seq ?_
  refine AT_region ?_
  refine AOps_box_im (ds := (Conf.enc a0)) (tl_get rfl) rfl rfl (by kernel_rfl) ?_
  refine AOps_forget 0x6 (mkS 60 [(1, .sl 3 (a1.map Col.enc) none), (2, .pt (Conf.enc a0))]) (by kernel_rfl) ?_
  refine AOps_seg 1 0x6 (mkS 60 [(1, .sl 3 (a1.map Col.enc) none), (2, .pt (Conf.enc a0))]) none [] (by kernel_rfl) (by kernel_rfl) trivial ?_
  refine AOps_end ?_
  refine athen_n ?_
  refine AT_seq ?_
  refine AT_seq ?_
  refine AT_region ?_
  refine AOps_seg 4 0x406 (mkS 60 [(1, .sl 3 (a1.map Col.enc) none), (2, .pt (Conf.enc a0)), (10, bo (decide (a0.GroupRows < 1)))]) none [4, 5, 6, 7, 8, 9, 10, 11, 12, 13, 14, 15, 16, 17, 18, 19, 20, 21, 22, 23, 24, 25] (by kernel_rfl) (by kernel_rfl) trivial ?_
  refine AOps_caseS 10 (decide (a0.GroupRows < 1)) (by kernel_rfl) (mkS 60 [(1, .sl 3 (a1.map Col.enc) none), (2, .pt (Conf.enc a0)), (10, bo true)]) (mkS 60 [(1, .sl 3 (a1.map Col.enc) none), (2, .pt (Conf.enc a0)), (10, bo false)]) (by kernel_rfl) (by kernel_rfl) (fun hc8 => ?_) (fun hc8 => ?_)
  · rw [if_t hc8] at h
    refine AOps_seg 22 0x100000006 (mkS 60 [(1, .sl 3 (a1.map Col.enc) none), (2, .pt (Conf.enc a0)), (32, bo true)]) none [] (by kernel_rfl) (by kernel_rfl) trivial ?_
    refine AOps_end ?_
    refine athen_n ?_
    refine AT_cond_t (by kernel_rfl) ?_
    refine AT_seq ?_
    refine AT_region ?_
    refine AOps_seg 1 0x10 (mkS 60 [(4, i64 1)]) none [] (by kernel_rfl) (by kernel_rfl) trivial ?_
    refine AOps_end ?_
    refine athen_n ?_
    refine AT_ret ?_
    refine athen_r ?_
    have e_ := Option.some.inj h
    subst e_
    exact ⟨[i64 1], i64 1, S, (.of (by kernel_rfl)), D.le.refl _, hB, rfl, rfl⟩
  · rw [if_f hc8] at h
    refine AOps_seg 5 0x8006 (mkS 60 [(1, .sl 3 (a1.map Col.enc) none), (2, .pt (Conf.enc a0)), (15, bo (decide (a0.GroupRows > 65536)))]) none [9, 10, 11, 12, 13, 14, 15, 16, 17, 18, 19, 20, 21, 22, 23, 24, 25] (by kernel_rfl) (by kernel_rfl) trivial ?_
    refine AOps_caseS 15 (decide (a0.GroupRows > 65536)) (by kernel_rfl) (mkS 60 [(1, .sl 3 (a1.map Col.enc) none), (2, .pt (Conf.enc a0)), (15, bo true)]) (mkS 60 [(1, .sl 3 (a1.map Col.enc) none), (2, .pt (Conf.enc a0)), (15, bo false)]) (by kernel_rfl) (by kernel_rfl) (fun hc9 => ?_) (fun hc9 => ?_)
    · rw [if_t hc9] at h
      refine AOps_seg 17 0x100000006 (mkS 60 [(1, .sl 3 (a1.map Col.enc) none), (2, .pt (Conf.enc a0)), (32, bo true)]) none [] (by kernel_rfl) (by kernel_rfl) trivial ?_
      refine AOps_end ?_
      refine athen_n ?_
      refine AT_cond_t (by kernel_rfl) ?_
      refine AT_seq ?_
      refine AT_region ?_
      refine AOps_seg 1 0x10 (mkS 60 [(4, i64 1)]) none [] (by kernel_rfl) (by kernel_rfl) trivial ?_
      refine AOps_end ?_
      refine athen_n ?_
      refine AT_ret ?_
      refine athen_r ?_
      have e_ := Option.some.inj h
      subst e_
      exact ⟨[i64 1], i64 1, S, (.of (by kernel_rfl)), D.le.refl _, hB, rfl, rfl⟩
    · rw [if_f hc9] at h
      refine AOps_seg 5 0x100006 (mkS 60 [(1, .sl 3 (a1.map Col.enc) none), (2, .pt (Conf.enc a0)), (20, bo (decide (a0.PageRows < 1)))]) none [14, 15, 16, 17, 18, 19, 20, 21, 22, 23, 24, 25] (by kernel_rfl) (by kernel_rfl) trivial ?_
      refine AOps_caseS 20 (decide (a0.PageRows < 1)) (by kernel_rfl) (mkS 60 [(1, .sl 3 (a1.map Col.enc) none), (2, .pt (Conf.enc a0)), (20, bo true)]) (mkS 60 [(1, .sl 3 (a1.map Col.enc) none), (2, .pt (Conf.enc a0)), (20, bo false)]) (by kernel_rfl) (by kernel_rfl) (fun hc10 => ?_) (fun hc10 => ?_)
      · rw [if_t hc10] at h
        refine AOps_seg 12 0x100000006 (mkS 60 [(1, .sl 3 (a1.map Col.enc) none), (2, .pt (Conf.enc a0)), (32, bo true)]) none [] (by kernel_rfl) (by kernel_rfl) trivial ?_
        refine AOps_end ?_
        refine athen_n ?_
        refine AT_cond_t (by kernel_rfl) ?_
        refine AT_seq ?_
        refine AT_region ?_
        refine AOps_seg 1 0x10 (mkS 60 [(4, i64 1)]) none [] (by kernel_rfl) (by kernel_rfl) trivial ?_
        refine AOps_end ?_
        refine athen_n ?_
        refine AT_ret ?_
        refine athen_r ?_
        have e_ := Option.some.inj h
        subst e_
        exact ⟨[i64 1], i64 1, S, (.of (by kernel_rfl)), D.le.refl _, hB, rfl, rfl⟩
      · rw [if_f hc10] at h
        refine AOps_seg 5 0x2000006 (mkS 60 [(1, .sl 3 (a1.map Col.enc) none), (2, .pt (Conf.enc a0)), (25, bo (decide (a0.PageRows > 65536)))]) none [19, 20, 21, 22, 23, 24, 25] (by kernel_rfl) (by kernel_rfl) trivial ?_
        refine AOps_caseS 25 (decide (a0.PageRows > 65536)) (by kernel_rfl) (mkS 60 [(1, .sl 3 (a1.map Col.enc) none), (2, .pt (Conf.enc a0)), (25, bo true)]) (mkS 60 [(1, .sl 3 (a1.map Col.enc) none), (2, .pt (Conf.enc a0)), (25, bo false)]) (by kernel_rfl) (by kernel_rfl) (fun hc11 => ?_) (fun hc11 => ?_)
        · rw [if_t hc11] at h
          refine AOps_seg 7 0x100000006 (mkS 60 [(1, .sl 3 (a1.map Col.enc) none), (2, .pt (Conf.enc a0)), (32, bo true)]) none [] (by kernel_rfl) (by kernel_rfl) trivial ?_
          refine AOps_end ?_
          refine athen_n ?_
          refine AT_cond_t (by kernel_rfl) ?_
          refine AT_seq ?_
          refine AT_region ?_
          refine AOps_seg 1 0x10 (mkS 60 [(4, i64 1)]) none [] (by kernel_rfl) (by kernel_rfl) trivial ?_
          refine AOps_end ?_
          refine athen_n ?_
          refine AT_ret ?_
          refine athen_r ?_
          have e_ := Option.some.inj h
          subst e_
          exact ⟨[i64 1], i64 1, S, (.of (by kernel_rfl)), D.le.refl _, hB, rfl, rfl⟩
        · rw [if_f hc11] at h
          refine AOps_seg 3 0x12000006 (mkS 60 [(1, .sl 3 (a1.map Col.enc) none), (2, .pt (Conf.enc a0)), (25, bo false), (28, i64 ((a0.Encs.map eI).length : Int))]) none [22, 23, 24, 25] (by kernel_rfl) (by kernel_rfl) trivial ?_
          refine AOps_to (mkS 60 [(1, .sl 3 (a1.map Col.enc) none), (2, .pt (Conf.enc a0)), (25, bo false), (28, i64 (a0.Encs.length : Int))]) (by rw [List.length_map]) ?_
          refine AOps_seg 2 0x52000006 (mkS 60 [(1, .sl 3 (a1.map Col.enc) none), (2, .pt (Conf.enc a0)), (25, bo false), (28, i64 (a0.Encs.length : Int)), (30, i64 ((a1.map Col.enc).length : Int))]) none [24, 25] (by kernel_rfl) (by kernel_rfl) trivial ?_
          refine AOps_to (mkS 60 [(1, .sl 3 (a1.map Col.enc) none), (2, .pt (Conf.enc a0)), (25, bo false), (28, i64 (a0.Encs.length : Int)), (30, i64 (a1.length : Int))]) (by rw [List.length_map]) ?_
          refine AOps_seg 2 0x100000006 (mkS 60 [(1, .sl 3 (a1.map Col.enc) none), (2, .pt (Conf.enc a0)), (32, bo ((a0.Encs.length : Int) != (a1.length : Int)))]) none [] (by kernel_rfl) (by kernel_rfl) trivial ?_
          refine AOps_end ?_
          refine athen_n ?_
          refine AT_condS ((a0.Encs.length : Int) != (a1.length : Int)) (by kernel_rfl) (fun hc14 => ?_) (fun hc14 => ?_)
          · rw [if_t hc14] at h
            refine AT_seq ?_
            refine AT_region ?_
            refine AOps_seg 1 0x10 (mkS 60 [(4, i64 1)]) none [] (by kernel_rfl) (by kernel_rfl) trivial ?_
            refine AOps_end ?_
            refine athen_n ?_
            refine AT_ret ?_
            refine athen_r ?_
            have e_ := Option.some.inj h
            subst e_
            exact ⟨[i64 1], i64 1, S, (.of (by kernel_rfl)), D.le.refl _, hB, rfl, rfl⟩
          · rw [if_f hc14] at h
            refine AT_skip ?_
            refine athen_n ?_
            refine AT_seq ?_
            refine AT_seq ?_
            refine AT_region ?_
            refine AOps_seg 1 0x26 (mkS 60 [(1, .sl 3 (a1.map Col.enc) none), (2, .pt (Conf.enc a0)), (5, i64 0)]) none [] (by kernel_rfl) (by kernel_rfl) trivial ?_
            refine AOps_end ?_
            refine athen_n ?_
            refine AT_block ?_
            refine AT_loopM 0x26 (fun k_ sl_ S16 => ∃ (x15 : Int), sl_ = mkS 60 [(1, .sl 3 (a1.map Col.enc) none), (2, .pt (Conf.enc a0)), (5, i64 x15)] ∧ ref18_Check.l0 k_ a0 a1 x15 = some r ∧ S16.le S) k ⟨0, (by kernel_rfl), h, hB⟩ ?_
            rintro k' sl_ S16 ⟨x15, rfl, h, hB17⟩
            cases k' with
            | zero => cases h
            | succ k18 =>
              rw [ref18_Check.l0] at h
              refine AT_seq ?_
              refine AT_seq ?_
              refine AT_region ?_
              refine AOps_seg 3 0xa00000026 (mkS 60 [(1, .sl 3 (a1.map Col.enc) none), (2, .pt (Conf.enc a0)), (5, i64 x15), (33, i64 x15), (35, i64 ((a1.map Col.enc).length : Int))]) none [3] (by kernel_rfl) (by kernel_rfl) trivial ?_
              refine AOps_to (mkS 60 [(1, .sl 3 (a1.map Col.enc) none), (2, .pt (Conf.enc a0)), (5, i64 x15), (33, i64 x15), (35, i64 (a1.length : Int))]) (by rw [List.length_map]) ?_
              refine AOps_seg 1 0x1000000026 (mkS 60 [(1, .sl 3 (a1.map Col.enc) none), (2, .pt (Conf.enc a0)), (5, i64 x15), (36, bo (decide (x15 < (a1.length : Int))))]) none [] (by kernel_rfl) (by kernel_rfl) trivial ?_
              refine AOps_end ?_
              refine athen_n ?_
              refine AT_condS (decide (x15 < (a1.length : Int))) (by kernel_rfl) (fun hc20 => ?_) (fun hc20 => ?_)
              · rw [if_t hc20] at h
                refine AT_skip ?_
                refine athen_n ?_
                refine AT_seq ?_
                refine AT_block ?_
                refine AT_seq ?_
                refine AT_draw [10] (by kernel_rfl) ?_
                refine AAny_seg 12 [] 0x3ff8000000066 (mkS 60 [(1, .sl 3 (a1.map Col.enc) none), (2, .pt (Conf.enc a0)), (5, i64 x15)]) none #[false, false, false, false, false, false, false, false, false, false, false, false] (by kernel_rfl) trivial (by kernel_rfl) ?_
                by_cases hi21 : 0 ≤ x15 ∧ x15 < (a1.length : Int)
                rotate_left
                · rw [if_neg hi21] at h; cases h
                rw [if_pos hi21] at h
                refine AAny_seg 9 [0, 1, 2] 0x3fe0000000066 (mkS 60 [(1, .sl 3 (a1.map Col.enc) none), (2, .pt (Conf.enc a0)), (5, i64 x15), (41, .pt ((a1.map Col.enc).getD (x15 : Int).toNat []))]) (some (0 ≤ x15 ∧ x15 < ((a1.map Col.enc).length : Int))) #[true, true, true, false, false, false, false, false, false, false, false, false] (by kernel_rfl) (idx_ok hi21) (by kernel_rfl) ?_
                refine AAny_to (mkS 60 [(1, .sl 3 (a1.map Col.enc) none), (2, .pt (Conf.enc a0)), (5, i64 x15), (41, .pt (Col.enc (rd a1 x15 Col.zero)))]) (by rw [pt_rd Col.enc a1 x15 Col.zero hi21.1 hi21.2]) ?_
                by_cases hi22 : 0 ≤ x15 ∧ x15 < (a0.Encs.length : Int)
                rotate_left
                · rw [if_neg hi22] at h; cases h
                rw [if_pos hi22] at h
                refine AAny_seg 3 [3, 4, 5, 6, 7, 8] 0x3880000000066 (mkS 60 [(1, .sl 3 (a1.map Col.enc) none), (2, .pt (Conf.enc a0)), (5, i64 x15), (43, i64 ((rd a1 x15 Col.zero).Type_)), (47, .pt ((a0.Encs.map eI).getD (x15 : Int).toNat []))]) (some (0 ≤ x15 ∧ x15 < ((a0.Encs.map eI).length : Int))) #[true, true, true, true, true, true, true, true, true, false, false, false] (by kernel_rfl) (idx_ok hi22) (by kernel_rfl) ?_
                refine AAny_to (mkS 60 [(1, .sl 3 (a1.map Col.enc) none), (2, .pt (Conf.enc a0)), (5, i64 x15), (43, i64 ((rd a1 x15 Col.zero).Type_)), (47, .pt [i64 (rd a0.Encs x15 0)])]) (by rw [pt_rd eI a0.Encs x15 0 hi22.1 hi22.2]) ?_
                refine AAny_seg 2 [9] 0x3080000000066 (mkS 60 [(1, .sl 3 (a1.map Col.enc) none), (2, .pt (Conf.enc a0)), (5, i64 x15), (43, i64 ((rd a1 x15 Col.zero).Type_)), (48, i64 (rd a0.Encs x15 0))]) none #[true, true, true, true, true, true, true, true, true, true, false, false] (by kernel_rfl) trivial (by kernel_rfl) ?_
                refine AAny_eff (fuel := 1) 10 (tl_get rfl) (by kernel_rfl) (by kernel_rfl) (by kernel_rfl) ?_
                obtain ⟨v23, ht24, h⟩ := Option.bind_eq_some_iff.1 h
                refine AOps_callR _ [i64 ((rd a1 x15 Col.zero).Type_), i64 (rd a0.Encs x15 0)] (tl_get rfl) rfl rfl rfl rfl Tryz.func22 (by decide) rfl ((.cons (D.le.refl _) (.cons (D.le.refl _) (.nil)))) (ref14_Fits.ok _ ((rd a1 x15 Col.zero).Type_) (rd a0.Encs x15 0) S16 _ ht24) ?_
                rintro _ _ ⟨rfl, e_⟩
                obtain rfl := e_.symm
                refine AOps_end ⟨rfl, _, rfl, ?_⟩; refine AAny_forget 0x2000000000026 (mkS 60 [(1, .sl 3 (a1.map Col.enc) none), (2, .pt (Conf.enc a0)), (5, i64 x15), (49, bo v23)]) #[true, true, true, true, true, true, true, true, true, true, true, false] (by kernel_rfl) (by kernel_rfl) ?_
                refine AAny_seg 0 [11] 0x66 (mkS 60 [(1, .sl 3 (a1.map Col.enc) none), (2, .pt (Conf.enc a0)), (5, i64 x15), (6, bo v23)]) none #[true, true, true, true, true, true, true, true, true, true, true, true] (by kernel_rfl) trivial (by kernel_rfl) ?_
                refine AAny_end (by kernel_rfl) ?_
                refine athen_n ?_
                refine AT_seq ?_
                refine AT_region ?_
                by_cases hi25 : 0 ≤ x15 ∧ x15 < (a0.Encs.length : Int)
                rotate_left
                · rw [if_neg hi25] at h; cases h
                rw [if_pos hi25] at h
                refine AOps_seg 4 0x20000000000066 (mkS 60 [(1, .sl 3 (a1.map Col.enc) none), (2, .pt (Conf.enc a0)), (5, i64 x15), (6, bo v23), (53, .pt ((a0.Encs.map eI).getD (x15 : Int).toNat []))]) (some (0 ≤ x15 ∧ x15 < ((a0.Encs.map eI).length : Int))) [4, 5, 6, 7, 8, 9] (by kernel_rfl) (by kernel_rfl) (idx_ok hi25) ?_
                refine AOps_to (mkS 60 [(1, .sl 3 (a1.map Col.enc) none), (2, .pt (Conf.enc a0)), (5, i64 x15), (6, bo v23), (53, .pt [i64 (rd a0.Encs x15 0)])]) (by rw [pt_rd eI a0.Encs x15 0 hi25.1 hi25.2]) ?_
                refine AOps_seg 3 0x100000000000066 (mkS 60 [(1, .sl 3 (a1.map Col.enc) none), (2, .pt (Conf.enc a0)), (5, i64 x15), (6, bo v23), (56, bo ((rd a0.Encs x15 0) != (-1)))]) none [7, 8, 9] (by kernel_rfl) (by kernel_rfl) trivial ?_
                refine AOps_caseS 56 ((rd a0.Encs x15 0) != (-1)) (by kernel_rfl) (mkS 60 [(1, .sl 3 (a1.map Col.enc) none), (2, .pt (Conf.enc a0)), (5, i64 x15), (6, bo v23), (56, bo true)]) (mkS 60 [(1, .sl 3 (a1.map Col.enc) none), (2, .pt (Conf.enc a0)), (5, i64 x15), (6, bo v23), (56, bo false)]) (by kernel_rfl) (by kernel_rfl) (fun hc26 => ?_) (fun hc26 => ?_)
                · rw [if_t hc26] at h
                  refine AOps_seg 3 0x800000000000026 (mkS 60 [(1, .sl 3 (a1.map Col.enc) none), (2, .pt (Conf.enc a0)), (5, i64 x15), (59, bo (!v23))]) none [] (by kernel_rfl) (by kernel_rfl) trivial ?_
                  refine AOps_end ?_
                  refine athen_n ?_
                  refine AT_condS (!v23) (by kernel_rfl) (fun hc27 => ?_) (fun hc27 => ?_)
                  · rw [if_t hc27] at h
                    refine AT_seq ?_
                    refine AT_region ?_
                    refine AOps_seg 1 0x10 (mkS 60 [(4, i64 3)]) none [] (by kernel_rfl) (by kernel_rfl) trivial ?_
                    refine AOps_end ?_
                    refine athen_n ?_
                    refine AT_ret ?_
                    refine ablock_r ?_
                    refine athen_r ?_
                    refine athen_r ?_
                    refine ablock_r ?_
                    refine athen_r ?_
                    have e_ := Option.some.inj h
                    subst e_
                    exact ⟨[i64 3], i64 3, S, (.of (by kernel_rfl)), D.le.refl _, hB17, rfl, rfl⟩
                  · rw [if_f hc27] at h
                    refine AT_skip ?_
                    refine ablock_n ?_
                    refine athen_n ?_
                    refine AT_region ?_
                    refine AOps_seg 3 0x26 (mkS 60 [(1, .sl 3 (a1.map Col.enc) none), (2, .pt (Conf.enc a0)), (5, i64 (IntKind.wrap .i64 (x15 + 1)))]) none [] (by kernel_rfl) (by kernel_rfl) trivial ?_
                    refine AOps_end ?_
                    refine athen_n ?_
                    exact ⟨k18, (by omega), IntKind.wrap .i64 (x15 + 1), (by kernel_rfl), h, hB17⟩
                · rw [if_f hc26] at h
                  refine AOps_seg 3 0x800000000000026 (mkS 60 [(1, .sl 3 (a1.map Col.enc) none), (2, .pt (Conf.enc a0)), (5, i64 x15), (59, bo false)]) none [] (by kernel_rfl) (by kernel_rfl) trivial ?_
                  refine AOps_end ?_
                  refine athen_n ?_
                  refine AT_cond_f (by kernel_rfl) ?_
                  refine AT_skip ?_
                  refine ablock_n ?_
                  refine athen_n ?_
                  refine AT_region ?_
                  refine AOps_seg 3 0x26 (mkS 60 [(1, .sl 3 (a1.map Col.enc) none), (2, .pt (Conf.enc a0)), (5, i64 (IntKind.wrap .i64 (x15 + 1)))]) none [] (by kernel_rfl) (by kernel_rfl) trivial ?_
                  refine AOps_end ?_
                  refine athen_n ?_
                  exact ⟨k18, (by omega), IntKind.wrap .i64 (x15 + 1), (by kernel_rfl), h, hB17⟩
              · rw [if_f hc20] at h
                refine AT_exit ?_
                refine athen_e ?_
                refine athen_e ?_
                refine ablock_h ?_
                refine athen_n ?_
                refine AT_seq ?_
                refine AT_region ?_
                refine AOps_seg 1 0x10 (mkS 60 [(4, i64 0)]) none [] (by kernel_rfl) (by kernel_rfl) trivial ?_
                refine AOps_end ?_
                refine athen_n ?_
                refine AT_ret ?_
                have e_ := Option.some.inj h
                subst e_
                exact ⟨[i64 0], i64 0, S, (.of (by kernel_rfl)), D.le.refl _, hB17, rfl, rfl⟩
end Go.Proofs.YtjapfalijpfmpaaGreatDoor.Abs
