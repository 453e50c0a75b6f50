/- What functions of the program compute, each with the proof that it does (printed by wip/gen/all.py). -/
import Derived.Test.YtjapfalijpfmpaaGreatDoorU1
import Derived.KernelRfl
namespace Go.Proofs.YtjapfalijpfmpaaGreatDoor.Abs
open Go
set_option maxRecDepth 100000
def layout_Check.l0 : Nat → Conf → (List Col) → Int → Option (Int)
  | 0, _, _, _ => none
  | k + 1, a0, a1, x20 => if (decide (x20 < (a0.Encs.length : Int))) = true then (if 0 ≤ x20 ∧ x20 < (a0.Encs.length : Int) then (if ((rd a0.Encs x20 0) != (-1)) = true then (if 0 ≤ x20 ∧ x20 < (a1.length : Int) then ((values_Fits.f ((rd a1 x20 Col.zero).Type_) (rd a0.Encs x20 0)).bind fun v28 => (if (!v28) = true then (some 3) else (layout_Check.l0 k a0 a1 (IntKind.wrap .i64 (x20 + 1))))) else none) else (layout_Check.l0 k a0 a1 (IntKind.wrap .i64 (x20 + 1)))) else none) else (some 0)
def layout_Check.f (k : Nat) (a0 : Conf) (a1 : (List Col)) : Option (Int) := (layout_rows.f a0.GroupRows).bind fun v10 => (if (!v10) = true then (some 1) else ((layout_rows.f a0.PageRows).bind fun v13 => (if (!v13) = true then (some 1) else (if ((a0.Encs.length : Int) != (a1.length : Int)) = true then (some 1) else (layout_Check.l0 k a0 a1 0)))))
theorem layout_Check.mono_l : ∀ k, (∀ y0 y1 y2, LeO (layout_Check.l0 k y0 y1 y2) (layout_Check.l0 (k + 1) y0 y1 y2))
  | 0 => fun _ _ _ r h => (by simp only [layout_Check.l0] at h; cases h)
  | k + 1 => by
    have ih := layout_Check.mono_l k
    · intro y0 y1 y2
      rw [layout_Check.l0, layout_Check.l0]
      repeat' first
        | exact LeO.refl _
        | exact LeO.none _
        | exact ih _ _ _
        | refine LeO.ite ?_ ?_
        | refine LeO.bind ?_ (fun _ => ?_)
theorem layout_Check.mono (k : Nat) (a0 : Conf) (a1 : (List Col)) : LeO (layout_Check.f k a0 a1) (layout_Check.f (k + 1) a0 a1) := by
  unfold layout_Check.f
  repeat' first
    | exact LeO.refl _
    | exact LeO.none _
    | exact (layout_Check.mono_l k) _ _ _
    | refine LeO.ite ?_ ?_
    | refine LeO.bind ?_ (fun _ => ?_)
theorem layout_Check.ok (k : Nat) (a0 : Conf) (a1 : (List Col)) (S : Store) (r : Int) (h : layout_Check.f k a0 a1 = some r) : ACalls Tryz.prog 15 [.ag (Conf.enc a0), .sl 3 (a1.map Col.enc) none] S (Ret (i64 r) S) := by
  unfold layout_Check.f at h
  refine acalls_of Tryz.func15 rfl ?_
  have hB : S.le S := Store.le.refl S
  refine AT_forget 0x3 (mkS 46 [(0, .ag (Conf.enc a0)), (1, .sl 3 (a1.map Col.enc) none)]) (by kernel_rfl) ?_
  refine AT_seq ?_
  refine AT_region ?_
  refine AOps_box_im (ds := (Conf.enc a0)) (tl_get rfl) rfl rfl (by kernel_rfl) ?_
  refine AOps_forget 0x6 (mkS 46 [(1, .sl 3 (a1.map Col.enc) none), (2, .pt (Conf.enc a0))]) (by kernel_rfl) ?_
  refine AOps_seg 1 0x6 (mkS 46 [(1, .sl 3 (a1.map Col.enc) none), (2, .pt (Conf.enc a0))]) none [] (by kernel_rfl) (by kernel_rfl) trivial ?_
  refine AOps_end ?_
  refine athen_n ?_
  refine AT_seq ?_
  refine AT_seq ?_
  refine AT_region ?_
  refine AOps_seg 2 0x106 (mkS 46 [(1, .sl 3 (a1.map Col.enc) none), (2, .pt (Conf.enc a0)), (8, i64 a0.GroupRows)]) none [2, 3, 4, 5, 6, 7, 8, 9, 10, 11, 12, 13, 14, 15, 16, 17] (by kernel_rfl) (by kernel_rfl) trivial ?_
  obtain ⟨v10, ht11, h⟩ := Option.bind_eq_some_iff.1 h
  refine AOps_callR _ [i64 a0.GroupRows] (tl_get rfl) rfl rfl rfl rfl Tryz.func20 (by decide) rfl ((.cons (D.le.refl _) (.nil))) (layout_rows.ok a0.GroupRows S _ ht11) ?_
  rintro _ _ ⟨rfl, e_⟩
  obtain rfl := e_.symm
  refine AOps_forget 0x206 (mkS 46 [(1, .sl 3 (a1.map Col.enc) none), (2, .pt (Conf.enc a0)), (9, bo v10)]) (by kernel_rfl) ?_
  refine AOps_seg 2 0x806 (mkS 46 [(1, .sl 3 (a1.map Col.enc) none), (2, .pt (Conf.enc a0)), (11, bo (!v10))]) none [5, 6, 7, 8, 9, 10, 11, 12, 13, 14, 15, 16, 17] (by kernel_rfl) (by kernel_rfl) trivial ?_
  refine AOps_caseS 11 (!v10) (by kernel_rfl) (mkS 46 [(1, .sl 3 (a1.map Col.enc) none), (2, .pt (Conf.enc a0)), (11, bo true)]) (mkS 46 [(1, .sl 3 (a1.map Col.enc) none), (2, .pt (Conf.enc a0)), (11, bo false)]) (by kernel_rfl) (by kernel_rfl) (fun hc12 => ?_) (fun hc12 => ?_)
  · rw [if_t hc12] at h
    refine AOps_seg 13 0x1000006 (mkS 46 [(1, .sl 3 (a1.map Col.enc) none), (2, .pt (Conf.enc a0)), (24, bo true)]) none [] (by kernel_rfl) (by kernel_rfl) trivial ?_
    refine AOps_end ?_
    refine athen_n ?_
    refine AT_cond_t (by kernel_rfl) ?_
    refine AT_seq ?_
    refine AT_region ?_
    refine AOps_seg 1 0x10 (mkS 46 [(4, i64 1)]) none [] (by kernel_rfl) (by kernel_rfl) trivial ?_
    refine AOps_end ?_
    refine athen_n ?_
    refine AT_ret ?_
    refine athen_r ?_
    have e_ := Option.some.inj h
    subst e_
    exact ⟨[i64 1], i64 1, S, (.of (by kernel_rfl)), D.le.refl _, hB, rfl, rfl⟩
  · rw [if_f hc12] at h
    refine AOps_seg 2 0x2806 (mkS 46 [(1, .sl 3 (a1.map Col.enc) none), (2, .pt (Conf.enc a0)), (11, bo false), (13, i64 a0.PageRows)]) none [7, 8, 9, 10, 11, 12, 13, 14, 15, 16, 17] (by kernel_rfl) (by kernel_rfl) trivial ?_
    obtain ⟨v13, ht14, h⟩ := Option.bind_eq_some_iff.1 h
    refine AOps_callR _ [i64 a0.PageRows] (tl_get rfl) rfl rfl rfl rfl Tryz.func20 (by decide) rfl ((.cons (D.le.refl _) (.nil))) (layout_rows.ok a0.PageRows S _ ht14) ?_
    rintro _ _ ⟨rfl, e_⟩
    obtain rfl := e_.symm
    refine AOps_forget 0x4806 (mkS 46 [(1, .sl 3 (a1.map Col.enc) none), (2, .pt (Conf.enc a0)), (11, bo false), (14, bo v13)]) (by kernel_rfl) ?_
    refine AOps_seg 3 0x20006 (mkS 46 [(1, .sl 3 (a1.map Col.enc) none), (2, .pt (Conf.enc a0)), (17, bo (!v13))]) none [11, 12, 13, 14, 15, 16, 17] (by kernel_rfl) (by kernel_rfl) trivial ?_
    refine AOps_caseS 17 (!v13) (by kernel_rfl) (mkS 46 [(1, .sl 3 (a1.map Col.enc) none), (2, .pt (Conf.enc a0)), (17, bo true)]) (mkS 46 [(1, .sl 3 (a1.map Col.enc) none), (2, .pt (Conf.enc a0)), (17, bo false)]) (by kernel_rfl) (by kernel_rfl) (fun hc15 => ?_) (fun hc15 => ?_)
    · rw [if_t hc15] at h
      refine AOps_seg 7 0x1000006 (mkS 46 [(1, .sl 3 (a1.map Col.enc) none), (2, .pt (Conf.enc a0)), (24, bo true)]) none [] (by kernel_rfl) (by kernel_rfl) trivial ?_
      refine AOps_end ?_
      refine athen_n ?_
      refine AT_cond_t (by kernel_rfl) ?_
      refine AT_seq ?_
      refine AT_region ?_
      refine AOps_seg 1 0x10 (mkS 46 [(4, i64 1)]) none [] (by kernel_rfl) (by kernel_rfl) trivial ?_
      refine AOps_end ?_
      refine athen_n ?_
      refine AT_ret ?_
      refine athen_r ?_
      have e_ := Option.some.inj h
      subst e_
      exact ⟨[i64 1], i64 1, S, (.of (by kernel_rfl)), D.le.refl _, hB, rfl, rfl⟩
    · rw [if_f hc15] at h
      refine AOps_seg 3 0x120006 (mkS 46 [(1, .sl 3 (a1.map Col.enc) none), (2, .pt (Conf.enc a0)), (17, bo false), (20, i64 ((a0.Encs.map eI).length : Int))]) none [14, 15, 16, 17] (by kernel_rfl) (by kernel_rfl) trivial ?_
      refine AOps_to (mkS 46 [(1, .sl 3 (a1.map Col.enc) none), (2, .pt (Conf.enc a0)), (17, bo false), (20, i64 (a0.Encs.length : Int))]) (by rw [List.length_map]) ?_
      refine AOps_seg 2 0x520006 (mkS 46 [(1, .sl 3 (a1.map Col.enc) none), (2, .pt (Conf.enc a0)), (17, bo false), (20, i64 (a0.Encs.length : Int)), (22, i64 ((a1.map Col.enc).length : Int))]) none [16, 17] (by kernel_rfl) (by kernel_rfl) trivial ?_
      refine AOps_to (mkS 46 [(1, .sl 3 (a1.map Col.enc) none), (2, .pt (Conf.enc a0)), (17, bo false), (20, i64 (a0.Encs.length : Int)), (22, i64 (a1.length : Int))]) (by rw [List.length_map]) ?_
      refine AOps_seg 2 0x1000006 (mkS 46 [(1, .sl 3 (a1.map Col.enc) none), (2, .pt (Conf.enc a0)), (24, bo ((a0.Encs.length : Int) != (a1.length : Int)))]) none [] (by kernel_rfl) (by kernel_rfl) trivial ?_
      refine AOps_end ?_
      refine athen_n ?_
      refine AT_condS ((a0.Encs.length : Int) != (a1.length : Int)) (by kernel_rfl) (fun hc18 => ?_) (fun hc18 => ?_)
      · rw [if_t hc18] at h
        refine AT_seq ?_
        refine AT_region ?_
        refine AOps_seg 1 0x10 (mkS 46 [(4, i64 1)]) none [] (by kernel_rfl) (by kernel_rfl) trivial ?_
        refine AOps_end ?_
        refine athen_n ?_
        refine AT_ret ?_
        refine athen_r ?_
        have e_ := Option.some.inj h
        subst e_
        exact ⟨[i64 1], i64 1, S, (.of (by kernel_rfl)), D.le.refl _, hB, rfl, rfl⟩
      · rw [if_f hc18] at h
        refine AT_skip ?_
        refine athen_n ?_
        refine AT_seq ?_
        refine AT_seq ?_
        refine AT_region ?_
        refine AOps_seg 3 0xc000002 (mkS 46 [(1, .sl 3 (a1.map Col.enc) none), (26, .sl 1 (a0.Encs.map eI) none), (27, i64 ((a0.Encs.map eI).length : Int))]) none [3] (by kernel_rfl) (by kernel_rfl) trivial ?_
        refine AOps_to (mkS 46 [(1, .sl 3 (a1.map Col.enc) none), (26, .sl 1 (a0.Encs.map eI) none), (27, i64 (a0.Encs.length : Int))]) (by rw [List.length_map]) ?_
        refine AOps_seg 1 0x1c000002 (mkS 46 [(1, .sl 3 (a1.map Col.enc) none), (26, .sl 1 (a0.Encs.map eI) none), (27, i64 (a0.Encs.length : Int)), (28, i64 0)]) none [] (by kernel_rfl) (by kernel_rfl) trivial ?_
        refine AOps_end ?_
        refine athen_n ?_
        refine AT_block ?_
        refine AT_loopM 0x1c000002 (fun k_ sl_ S21 => ∃ (x20 : Int), sl_ = mkS 46 [(1, .sl 3 (a1.map Col.enc) none), (26, .sl 1 (a0.Encs.map eI) none), (27, i64 (a0.Encs.length : Int)), (28, i64 x20)] ∧ layout_Check.l0 k_ a0 a1 x20 = some r ∧ S21.le S) k ⟨0, (by kernel_rfl), h, hB⟩ ?_
        rintro k' sl_ S21 ⟨x20, rfl, h, hB22⟩
        cases k' with
        | zero => cases h
        | succ k23 =>
          rw [layout_Check.l0] at h
          refine AT_seq ?_
          refine AT_region ?_
          refine AOps_seg 1 0x3c000002 (mkS 46 [(1, .sl 3 (a1.map Col.enc) none), (26, .sl 1 (a0.Encs.map eI) none), (27, i64 (a0.Encs.length : Int)), (28, i64 x20), (29, bo (decide (x20 < (a0.Encs.length : Int))))]) none [] (by kernel_rfl) (by kernel_rfl) trivial ?_
          refine AOps_end ?_
          refine athen_n ?_
          refine AT_seq ?_
          refine AT_condS (decide (x20 < (a0.Encs.length : Int))) (by kernel_rfl) (fun hc24 => ?_) (fun hc24 => ?_)
          · rw [if_t hc24] at h
            refine AT_skip ?_
            refine athen_n ?_
            refine AT_seq ?_
            refine AT_block ?_
            refine AT_seq ?_
            refine AT_region ?_
            by_cases hi25 : 0 ≤ x20 ∧ x20 < (a0.Encs.length : Int)
            rotate_left
            · rw [if_neg hi25] at h; cases h
            rw [if_pos hi25] at h
            refine AOps_seg 2 0xdc000002 (mkS 46 [(1, .sl 3 (a1.map Col.enc) none), (26, .sl 1 (a0.Encs.map eI) none), (27, i64 (a0.Encs.length : Int)), (28, i64 x20), (30, i64 x20), (31, .pt ((a0.Encs.map eI).getD (x20 : Int).toNat []))]) (some (0 ≤ x20 ∧ x20 < ((a0.Encs.map eI).length : Int))) [2, 3, 4] (by kernel_rfl) (by kernel_rfl) (idx_ok hi25) ?_
            refine AOps_to (mkS 46 [(1, .sl 3 (a1.map Col.enc) none), (26, .sl 1 (a0.Encs.map eI) none), (27, i64 (a0.Encs.length : Int)), (28, i64 x20), (30, i64 x20), (31, .pt [i64 (rd a0.Encs x20 0)])]) (by rw [pt_rd eI a0.Encs x20 0 hi25.1 hi25.2]) ?_
            refine AOps_seg 3 0x1c000062 (mkS 46 [(1, .sl 3 (a1.map Col.enc) none), (5, i64 x20), (6, i64 (rd a0.Encs x20 0)), (26, .sl 1 (a0.Encs.map eI) none), (27, i64 (a0.Encs.length : Int)), (28, i64 x20)]) none [] (by kernel_rfl) (by kernel_rfl) trivial ?_
            refine AOps_end ?_
            refine athen_n ?_
            refine AT_seq ?_
            refine AT_region ?_
            refine AOps_seg 3 0x81c000062 (mkS 46 [(1, .sl 3 (a1.map Col.enc) none), (5, i64 x20), (6, i64 (rd a0.Encs x20 0)), (26, .sl 1 (a0.Encs.map eI) none), (27, i64 (a0.Encs.length : Int)), (28, i64 x20), (35, bo ((rd a0.Encs x20 0) != (-1)))]) none [3, 4, 5, 6, 7, 8, 9, 10, 11] (by kernel_rfl) (by kernel_rfl) trivial ?_
            refine AOps_caseS 35 ((rd a0.Encs x20 0) != (-1)) (by kernel_rfl) (mkS 46 [(1, .sl 3 (a1.map Col.enc) none), (5, i64 x20), (6, i64 (rd a0.Encs x20 0)), (26, .sl 1 (a0.Encs.map eI) none), (27, i64 (a0.Encs.length : Int)), (28, i64 x20), (35, bo true)]) (mkS 46 [(1, .sl 3 (a1.map Col.enc) none), (5, i64 x20), (6, i64 (rd a0.Encs x20 0)), (26, .sl 1 (a0.Encs.map eI) none), (27, i64 (a0.Encs.length : Int)), (28, i64 x20), (35, bo false)]) (by kernel_rfl) (by kernel_rfl) (fun hc26 => ?_) (fun hc26 => ?_)
            · rw [if_t hc26] at h
              by_cases hi27 : 0 ≤ x20 ∧ x20 < (a1.length : Int)
              rotate_left
              · rw [if_neg hi27] at h; cases h
              rw [if_pos hi27] at h
              refine AOps_seg 3 0x481c000042 (mkS 46 [(1, .sl 3 (a1.map Col.enc) none), (6, i64 (rd a0.Encs x20 0)), (26, .sl 1 (a0.Encs.map eI) none), (27, i64 (a0.Encs.length : Int)), (28, i64 x20), (35, bo true), (38, .pt ((a1.map Col.enc).getD (x20 : Int).toNat []))]) (some (0 ≤ x20 ∧ x20 < ((a1.map Col.enc).length : Int))) [6, 7, 8, 9, 10, 11] (by kernel_rfl) (by kernel_rfl) (idx_ok hi27) ?_
              refine AOps_to (mkS 46 [(1, .sl 3 (a1.map Col.enc) none), (6, i64 (rd a0.Encs x20 0)), (26, .sl 1 (a0.Encs.map eI) none), (27, i64 (a0.Encs.length : Int)), (28, i64 x20), (35, bo true), (38, .pt (Col.enc (rd a1 x20 Col.zero)))]) (by rw [pt_rd Col.enc a1 x20 Col.zero hi27.1 hi27.2]) ?_
              refine AOps_seg 3 0x3081c000002 (mkS 46 [(1, .sl 3 (a1.map Col.enc) none), (26, .sl 1 (a0.Encs.map eI) none), (27, i64 (a0.Encs.length : Int)), (28, i64 x20), (35, bo true), (40, i64 ((rd a1 x20 Col.zero).Type_)), (41, i64 (rd a0.Encs x20 0))]) none [9, 10, 11] (by kernel_rfl) (by kernel_rfl) trivial ?_
              obtain ⟨v28, ht29, h⟩ := Option.bind_eq_some_iff.1 h
              refine AOps_callR _ [i64 ((rd a1 x20 Col.zero).Type_), i64 (rd a0.Encs x20 0)] (tl_get rfl) rfl rfl rfl rfl Tryz.func21 (by decide) rfl ((.cons (D.le.refl _) (.cons (D.le.refl _) (.nil)))) (values_Fits.ok ((rd a1 x20 Col.zero).Type_) (rd a0.Encs x20 0) S21 _ ht29) ?_
              rintro _ _ ⟨rfl, e_⟩
              obtain rfl := e_.symm
              refine AOps_forget 0x4081c000002 (mkS 46 [(1, .sl 3 (a1.map Col.enc) none), (26, .sl 1 (a0.Encs.map eI) none), (27, i64 (a0.Encs.length : Int)), (28, i64 x20), (35, bo true), (42, bo v28)]) (by kernel_rfl) ?_
              refine AOps_seg 2 0x10001c000002 (mkS 46 [(1, .sl 3 (a1.map Col.enc) none), (26, .sl 1 (a0.Encs.map eI) none), (27, i64 (a0.Encs.length : Int)), (28, i64 x20), (44, bo (!v28))]) none [] (by kernel_rfl) (by kernel_rfl) trivial ?_
              refine AOps_end ?_
              refine athen_n ?_
              refine AT_condS (!v28) (by kernel_rfl) (fun hc30 => ?_) (fun hc30 => ?_)
              · rw [if_t hc30] at h
                refine AT_seq ?_
                refine AT_region ?_
                refine AOps_seg 1 0x10 (mkS 46 [(4, i64 3)]) none [] (by kernel_rfl) (by kernel_rfl) trivial ?_
                refine AOps_end ?_
                refine athen_n ?_
                refine AT_ret ?_
                refine ablock_r ?_
                refine athen_r ?_
                refine athen_r ?_
                refine ablock_r ?_
                refine athen_r ?_
                have e_ := Option.some.inj h
                subst e_
                exact ⟨[i64 3], i64 3, S, (.of (by kernel_rfl)), D.le.refl _, hB22, rfl, rfl⟩
              · rw [if_f hc30] at h
                refine AT_skip ?_
                refine ablock_n ?_
                refine athen_n ?_
                refine AT_region ?_
                refine AOps_seg 2 0x1c000002 (mkS 46 [(1, .sl 3 (a1.map Col.enc) none), (26, .sl 1 (a0.Encs.map eI) none), (27, i64 (a0.Encs.length : Int)), (28, i64 (IntKind.wrap .i64 (x20 + 1)))]) none [] (by kernel_rfl) (by kernel_rfl) trivial ?_
                refine AOps_end ?_
                refine athen_n ?_
                exact ⟨k23, (by omega), IntKind.wrap .i64 (x20 + 1), (by kernel_rfl), h, hB22⟩
            · rw [if_f hc26] at h
              refine AOps_seg 9 0x10001c000002 (mkS 46 [(1, .sl 3 (a1.map Col.enc) none), (26, .sl 1 (a0.Encs.map eI) none), (27, i64 (a0.Encs.length : Int)), (28, i64 x20), (44, bo false)]) none [] (by kernel_rfl) (by kernel_rfl) trivial ?_
              refine AOps_end ?_
              refine athen_n ?_
              refine AT_cond_f (by kernel_rfl) ?_
              refine AT_skip ?_
              refine ablock_n ?_
              refine athen_n ?_
              refine AT_region ?_
              refine AOps_seg 2 0x1c000002 (mkS 46 [(1, .sl 3 (a1.map Col.enc) none), (26, .sl 1 (a0.Encs.map eI) none), (27, i64 (a0.Encs.length : Int)), (28, i64 (IntKind.wrap .i64 (x20 + 1)))]) none [] (by kernel_rfl) (by kernel_rfl) trivial ?_
              refine AOps_end ?_
              refine athen_n ?_
              exact ⟨k23, (by omega), IntKind.wrap .i64 (x20 + 1), (by kernel_rfl), h, hB22⟩
          · rw [if_f hc24] at h
            refine AT_exit ?_
            refine athen_e ?_
            refine athen_e ?_
            refine ablock_h ?_
            refine athen_n ?_
            refine AT_seq ?_
            refine AT_region ?_
            refine AOps_seg 1 0x10 (mkS 46 [(4, i64 0)]) none [] (by kernel_rfl) (by kernel_rfl) trivial ?_
            refine AOps_end ?_
            refine athen_n ?_
            refine AT_ret ?_
            have e_ := Option.some.inj h
            subst e_
            exact ⟨[i64 0], i64 0, S, (.of (by kernel_rfl)), D.le.refl _, hB22, rfl, rfl⟩
def law18_small.f (k : Nat)  : Option (Bool) := (layout_Cut.f k 0 5 2).bind fun v1 => ((layout_Over.f k v1 1 3).bind fun q_v10 => ((layout_Over.f k v1 2 2).bind fun q_v14 => ((layout_Over.f k v1 4 9).bind fun q_v18 => (if ((v1.length : Int) != 3) = true then (some false) else (if 0 ≤ (2 : Int) ∧ (2 : Int) < (v1.length : Int) then (if ((((rd v1 2 Span.zero).From) == 4) && ((((rd v1 2 Span.zero).To) == 5) && true)) = true then (if (q_v10.1 == 0) = true then (if (q_v10.2 == 2) = true then (if (q_v14.1 == 0) = true then (if (q_v14.2 == 0) = true then (if (q_v18.1 == 2) = true then (if (q_v18.2 == 3) = true then ((layout_Cut.f k 3 3 1).bind fun v32 => (if ((v32.length : Int) == 0) = true then ((layout_Cut.f k 0 3 0).bind fun v45 => (if ((v45.length : Int) == 0) = true then ((layout_Check.f k (⟨1, 1, [(-1)]⟩ : Conf) [(⟨[97], 0, false⟩ : Col)]).bind fun v60 => (if (v60 == 0) = true then ((layout_Check.f k (⟨1, 1, [4]⟩ : Conf) [(⟨[97], 0, false⟩ : Col)]).bind fun v63 => (if (v63 == 3) = true then ((layout_Check.f k (⟨0, 0, []⟩ : Conf) ([] : List Col)).bind fun v66 => (some (v66 == 1))) else (some false))) else (some false))) else (some false))) else (some false))) else (some false)) else (some false)) else (some false)) else (some false)) else (some false)) else (some false)) else (some false)) else none)))))
theorem law18_small.mono (k : Nat)  : LeO (law18_small.f k) (law18_small.f (k + 1)) := by
  unfold law18_small.f
  repeat' first
    | exact LeO.refl _
    | exact LeO.none _
    | exact layout_Cut.mono _ _ _ _
    | exact layout_Over.mono _ _ _ _
    | exact layout_Check.mono _ _ _
    | refine LeO.ite ?_ ?_
    | refine LeO.bind ?_ (fun _ => ?_)
theorem law18_small.ok (k : Nat)  (S : Store) (r : Bool) (h : law18_small.f k  = some r) : ACalls Tryz.prog 8 [] S (Ret (bo r) S) := by
  unfold law18_small.f at h
  refine acalls_of Tryz.func8 rfl ?_
  have hB : S.le S := Store.le.refl S
  refine AT_forget 0x0 (mkS 87 []) (by kernel_rfl) ?_
  refine AT_seq ?_
  refine AT_region ?_
  refine AOps_seg 1 0x0 (mkS 87 []) none [] (by kernel_rfl) (by kernel_rfl) trivial ?_
  refine AOps_end ?_
  refine athen_n ?_
  refine AT_seq ?_
  refine AT_region ?_
  obtain ⟨v1, ht2, h⟩ := Option.bind_eq_some_iff.1 h
  refine AOps_callR _ [i64 0, i64 5, i64 2] (tl_get rfl) rfl rfl rfl rfl Tryz.func10 (by decide) rfl ((.cons (D.le.refl _) (.cons (D.le.refl _) (.cons (D.le.refl _) (.nil))))) (layout_Cut.ok _ 0 5 2 S _ ht2) ?_
  rintro _ S5 ⟨t3, hf4, rfl, e_⟩
  have u6 : Upd _ S5 t3 _ := e_ ▸ Upd.mk' _ _ _
  clear e_
  have ff7 := fresh_le hB hf4
  have at8 := u6.at_
  have hB9 := u6.le hB ff7
  refine AOps_forget 0x100 (mkS 87 [(8, .sl 2 (v1.map Span.enc) (some t3))]) (by kernel_rfl) ?_
  refine AOps_seg 1 0x2 (mkS 87 [(1, .sl 2 (v1.map Span.enc) (some t3))]) none [] (by kernel_rfl) (by kernel_rfl) trivial ?_
  refine AOps_end ?_
  refine athen_n ?_
  refine AT_seq ?_
  refine AT_region ?_
  refine AOps_seg 1 0x402 (mkS 87 [(1, .sl 2 (v1.map Span.enc) (some t3)), (10, .sl 2 (v1.map Span.enc) (some t3))]) none [1, 2, 3, 4, 5, 6] (by kernel_rfl) (by kernel_rfl) trivial ?_
  obtain ⟨⟨v10, v11⟩, ht12, h⟩ := Option.bind_eq_some_iff.1 h
  simp only at h
  refine AOps_callR _ [.sl 2 (v1.map Span.enc) none, i64 1, i64 3] (tl_get rfl) rfl rfl rfl rfl Tryz.func12 (by decide) rfl ((.cons (sl_le) (.cons (D.le.refl _) (.cons (D.le.refl _) (.nil))))) (layout_Over.ok _ v1 1 3 S5 _ _ ht12) ?_
  rintro _ S13 ⟨_, rfl, ⟨_, rfl, ⟨_, rfl, ⟨rfl, e_⟩⟩⟩⟩
  obtain rfl := e_.symm
  refine AOps_forget 0x802 (mkS 87 [(1, .sl 2 (v1.map Span.enc) (some t3)), (11, .tup [i64 v10, i64 v11])]) (by kernel_rfl) ?_
  refine AOps_seg 5 0xe (mkS 87 [(1, .sl 2 (v1.map Span.enc) (some t3)), (2, i64 v10), (3, i64 v11)]) none [] (by kernel_rfl) (by kernel_rfl) trivial ?_
  refine AOps_end ?_
  refine athen_n ?_
  refine AT_seq ?_
  refine AT_region ?_
  refine AOps_seg 1 0x800e (mkS 87 [(1, .sl 2 (v1.map Span.enc) (some t3)), (2, i64 v10), (3, i64 v11), (15, .sl 2 (v1.map Span.enc) (some t3))]) none [1, 2, 3, 4, 5, 6] (by kernel_rfl) (by kernel_rfl) trivial ?_
  obtain ⟨⟨v14, v15⟩, ht16, h⟩ := Option.bind_eq_some_iff.1 h
  simp only at h
  refine AOps_callR _ [.sl 2 (v1.map Span.enc) none, i64 2, i64 2] (tl_get rfl) rfl rfl rfl rfl Tryz.func12 (by decide) rfl ((.cons (sl_le) (.cons (D.le.refl _) (.cons (D.le.refl _) (.nil))))) (layout_Over.ok _ v1 2 2 S5 _ _ ht16) ?_
  rintro _ S17 ⟨_, rfl, ⟨_, rfl, ⟨_, rfl, ⟨rfl, e_⟩⟩⟩⟩
  obtain rfl := e_.symm
  refine AOps_forget 0x1000e (mkS 87 [(1, .sl 2 (v1.map Span.enc) (some t3)), (2, i64 v10), (3, i64 v11), (16, .tup [i64 v14, i64 v15])]) (by kernel_rfl) ?_
  refine AOps_seg 5 0x3e (mkS 87 [(1, .sl 2 (v1.map Span.enc) (some t3)), (2, i64 v10), (3, i64 v11), (4, i64 v14), (5, i64 v15)]) none [] (by kernel_rfl) (by kernel_rfl) trivial ?_
  refine AOps_end ?_
  refine athen_n ?_
  refine AT_seq ?_
  refine AT_region ?_
  refine AOps_seg 1 0x10003e (mkS 87 [(1, .sl 2 (v1.map Span.enc) (some t3)), (2, i64 v10), (3, i64 v11), (4, i64 v14), (5, i64 v15), (20, .sl 2 (v1.map Span.enc) (some t3))]) none [1, 2, 3, 4, 5, 6] (by kernel_rfl) (by kernel_rfl) trivial ?_
  obtain ⟨⟨v18, v19⟩, ht20, h⟩ := Option.bind_eq_some_iff.1 h
  simp only at h
  refine AOps_callR _ [.sl 2 (v1.map Span.enc) none, i64 4, i64 9] (tl_get rfl) rfl rfl rfl rfl Tryz.func12 (by decide) rfl ((.cons (sl_le) (.cons (D.le.refl _) (.cons (D.le.refl _) (.nil))))) (layout_Over.ok _ v1 4 9 S5 _ _ ht20) ?_
  rintro _ S21 ⟨_, rfl, ⟨_, rfl, ⟨_, rfl, ⟨rfl, e_⟩⟩⟩⟩
  obtain rfl := e_.symm
  refine AOps_forget 0x20003e (mkS 87 [(1, .sl 2 (v1.map Span.enc) (some t3)), (2, i64 v10), (3, i64 v11), (4, i64 v14), (5, i64 v15), (21, .tup [i64 v18, i64 v19])]) (by kernel_rfl) ?_
  refine AOps_seg 5 0xfe (mkS 87 [(1, .sl 2 (v1.map Span.enc) (some t3)), (2, i64 v10), (3, i64 v11), (4, i64 v14), (5, i64 v15), (6, i64 v18), (7, i64 v19)]) none [] (by kernel_rfl) (by kernel_rfl) trivial ?_
  refine AOps_end ?_
  refine athen_n ?_
  refine AT_seq ?_
  refine AT_seq ?_
  refine AT_region ?_
  refine AOps_seg 2 0x20000fe (mkS 87 [(1, .sl 2 (v1.map Span.enc) (some t3)), (2, i64 v10), (3, i64 v11), (4, i64 v14), (5, i64 v15), (6, i64 v18), (7, i64 v19), (25, i64 ((v1.map Span.enc).length : Int))]) none [2] (by kernel_rfl) (by kernel_rfl) trivial ?_
  refine AOps_to (mkS 87 [(1, .sl 2 (v1.map Span.enc) (some t3)), (2, i64 v10), (3, i64 v11), (4, i64 v14), (5, i64 v15), (6, i64 v18), (7, i64 v19), (25, i64 (v1.length : Int))]) (by rw [List.length_map]) ?_
  refine AOps_seg 1 0x40000fe (mkS 87 [(1, .sl 2 (v1.map Span.enc) (some t3)), (2, i64 v10), (3, i64 v11), (4, i64 v14), (5, i64 v15), (6, i64 v18), (7, i64 v19), (26, bo ((v1.length : Int) != 3))]) none [] (by kernel_rfl) (by kernel_rfl) trivial ?_
  refine AOps_end ?_
  refine athen_n ?_
  refine AT_condS ((v1.length : Int) != 3) (by kernel_rfl) (fun hc23 => ?_) (fun hc23 => ?_)
  · rw [if_t hc23] at h
    refine AT_seq ?_
    refine AT_region ?_
    refine AOps_seg 1 0x1 (mkS 87 [(0, bo false)]) none [] (by kernel_rfl) (by kernel_rfl) trivial ?_
    refine AOps_end ?_
    refine athen_n ?_
    refine AT_ret ?_
    refine athen_r ?_
    have e_ := Option.some.inj h
    subst e_
    exact ⟨[bo false], bo false, S, (.of (by kernel_rfl)), D.le.refl _, hB9, rfl, rfl⟩
  · rw [if_f hc23] at h
    refine AT_skip ?_
    refine athen_n ?_
    refine AT_seq ?_
    refine AT_region ?_
    by_cases hi24 : 0 ≤ (2 : Int) ∧ (2 : Int) < (v1.length : Int)
    rotate_left
    · rw [if_neg hi24] at h; cases h
    rw [if_pos hi24] at h
    refine AOps_seg 2 0x100000fc (mkS 87 [(2, i64 v10), (3, i64 v11), (4, i64 v14), (5, i64 v15), (6, i64 v18), (7, i64 v19), (28, .pt ((v1.map Span.enc).getD (2 : Int).toNat []))]) (some (0 ≤ (2 : Int) ∧ (2 : Int) < ((v1.map Span.enc).length : Int))) [2, 3, 4, 5, 6, 7, 8, 9, 10, 11, 12, 13, 14, 15, 16, 17, 18, 19, 20, 21, 22, 23, 24, 25, 26, 27, 28, 29, 30, 31, 32, 33, 34, 35, 36, 37, 38, 39, 40, 41, 42, 43, 44, 45, 46, 47, 48, 49, 50, 51, 52, 53, 54, 55, 56, 57, 58, 59, 60] (by kernel_rfl) (by kernel_rfl) (idx_ok hi24) ?_
    refine AOps_to (mkS 87 [(2, i64 v10), (3, i64 v11), (4, i64 v14), (5, i64 v15), (6, i64 v18), (7, i64 v19), (28, .pt (Span.enc (rd v1 2 Span.zero)))]) (by rw [pt_rd Span.enc v1 2 Span.zero hi24.1 hi24.2]) ?_
    refine AOps_seg 4 0x1000000fc (mkS 87 [(2, i64 v10), (3, i64 v11), (4, i64 v14), (5, i64 v15), (6, i64 v18), (7, i64 v19), (32, bo ((((rd v1 2 Span.zero).From) == 4) && ((((rd v1 2 Span.zero).To) == 5) && true)))]) none [6, 7, 8, 9, 10, 11, 12, 13, 14, 15, 16, 17, 18, 19, 20, 21, 22, 23, 24, 25, 26, 27, 28, 29, 30, 31, 32, 33, 34, 35, 36, 37, 38, 39, 40, 41, 42, 43, 44, 45, 46, 47, 48, 49, 50, 51, 52, 53, 54, 55, 56, 57, 58, 59, 60] (by kernel_rfl) (by kernel_rfl) trivial ?_
    refine AOps_caseS 32 ((((rd v1 2 Span.zero).From) == 4) && ((((rd v1 2 Span.zero).To) == 5) && true)) (by kernel_rfl) (mkS 87 [(2, i64 v10), (3, i64 v11), (4, i64 v14), (5, i64 v15), (6, i64 v18), (7, i64 v19), (32, bo true)]) (mkS 87 [(2, i64 v10), (3, i64 v11), (4, i64 v14), (5, i64 v15), (6, i64 v18), (7, i64 v19), (32, bo false)]) (by kernel_rfl) (by kernel_rfl) (fun hc25 => ?_) (fun hc25 => ?_)
    · rw [if_t hc25] at h
      refine AOps_seg 4 0x10000000f8 (mkS 87 [(3, i64 v11), (4, i64 v14), (5, i64 v15), (6, i64 v18), (7, i64 v19), (36, bo (v10 == 0))]) none [10, 11, 12, 13, 14, 15, 16, 17, 18, 19, 20, 21, 22, 23, 24, 25, 26, 27, 28, 29, 30, 31, 32, 33, 34, 35, 36, 37, 38, 39, 40, 41, 42, 43, 44, 45, 46, 47, 48, 49, 50, 51, 52, 53, 54, 55, 56, 57, 58, 59, 60] (by kernel_rfl) (by kernel_rfl) trivial ?_
      refine AOps_caseS 36 (v10 == 0) (by kernel_rfl) (mkS 87 [(3, i64 v11), (4, i64 v14), (5, i64 v15), (6, i64 v18), (7, i64 v19), (36, bo true)]) (mkS 87 [(3, i64 v11), (4, i64 v14), (5, i64 v15), (6, i64 v18), (7, i64 v19), (36, bo false)]) (by kernel_rfl) (by kernel_rfl) (fun hc26 => ?_) (fun hc26 => ?_)
      · rw [if_t hc26] at h
        refine AOps_seg 4 0x100000000f0 (mkS 87 [(4, i64 v14), (5, i64 v15), (6, i64 v18), (7, i64 v19), (40, bo (v11 == 2))]) none [14, 15, 16, 17, 18, 19, 20, 21, 22, 23, 24, 25, 26, 27, 28, 29, 30, 31, 32, 33, 34, 35, 36, 37, 38, 39, 40, 41, 42, 43, 44, 45, 46, 47, 48, 49, 50, 51, 52, 53, 54, 55, 56, 57, 58, 59, 60] (by kernel_rfl) (by kernel_rfl) trivial ?_
        refine AOps_caseS 40 (v11 == 2) (by kernel_rfl) (mkS 87 [(4, i64 v14), (5, i64 v15), (6, i64 v18), (7, i64 v19), (40, bo true)]) (mkS 87 [(4, i64 v14), (5, i64 v15), (6, i64 v18), (7, i64 v19), (40, bo false)]) (by kernel_rfl) (by kernel_rfl) (fun hc27 => ?_) (fun hc27 => ?_)
        · rw [if_t hc27] at h
          refine AOps_seg 4 0x1000000000e0 (mkS 87 [(5, i64 v15), (6, i64 v18), (7, i64 v19), (44, bo (v14 == 0))]) none [18, 19, 20, 21, 22, 23, 24, 25, 26, 27, 28, 29, 30, 31, 32, 33, 34, 35, 36, 37, 38, 39, 40, 41, 42, 43, 44, 45, 46, 47, 48, 49, 50, 51, 52, 53, 54, 55, 56, 57, 58, 59, 60] (by kernel_rfl) (by kernel_rfl) trivial ?_
          refine AOps_caseS 44 (v14 == 0) (by kernel_rfl) (mkS 87 [(5, i64 v15), (6, i64 v18), (7, i64 v19), (44, bo true)]) (mkS 87 [(5, i64 v15), (6, i64 v18), (7, i64 v19), (44, bo false)]) (by kernel_rfl) (by kernel_rfl) (fun hc28 => ?_) (fun hc28 => ?_)
          · rw [if_t hc28] at h
            refine AOps_seg 4 0x10000000000c0 (mkS 87 [(6, i64 v18), (7, i64 v19), (48, bo (v15 == 0))]) none [22, 23, 24, 25, 26, 27, 28, 29, 30, 31, 32, 33, 34, 35, 36, 37, 38, 39, 40, 41, 42, 43, 44, 45, 46, 47, 48, 49, 50, 51, 52, 53, 54, 55, 56, 57, 58, 59, 60] (by kernel_rfl) (by kernel_rfl) trivial ?_
            refine AOps_caseS 48 (v15 == 0) (by kernel_rfl) (mkS 87 [(6, i64 v18), (7, i64 v19), (48, bo true)]) (mkS 87 [(6, i64 v18), (7, i64 v19), (48, bo false)]) (by kernel_rfl) (by kernel_rfl) (fun hc29 => ?_) (fun hc29 => ?_)
            · rw [if_t hc29] at h
              refine AOps_seg 4 0x10000000000080 (mkS 87 [(7, i64 v19), (52, bo (v18 == 2))]) none [26, 27, 28, 29, 30, 31, 32, 33, 34, 35, 36, 37, 38, 39, 40, 41, 42, 43, 44, 45, 46, 47, 48, 49, 50, 51, 52, 53, 54, 55, 56, 57, 58, 59, 60] (by kernel_rfl) (by kernel_rfl) trivial ?_
              refine AOps_caseS 52 (v18 == 2) (by kernel_rfl) (mkS 87 [(7, i64 v19), (52, bo true)]) (mkS 87 [(7, i64 v19), (52, bo false)]) (by kernel_rfl) (by kernel_rfl) (fun hc30 => ?_) (fun hc30 => ?_)
              · rw [if_t hc30] at h
                refine AOps_seg 4 0x100000000000000 (mkS 87 [(56, bo (v19 == 3))]) none [30, 31, 32, 33, 34, 35, 36, 37, 38, 39, 40, 41, 42, 43, 44, 45, 46, 47, 48, 49, 50, 51, 52, 53, 54, 55, 56, 57, 58, 59, 60] (by kernel_rfl) (by kernel_rfl) trivial ?_
                refine AOps_caseS 56 (v19 == 3) (by kernel_rfl) (mkS 87 [(56, bo true)]) (mkS 87 [(56, bo false)]) (by kernel_rfl) (by kernel_rfl) (fun hc31 => ?_) (fun hc31 => ?_)
                · rw [if_t hc31] at h
                  obtain ⟨v32, ht33, h⟩ := Option.bind_eq_some_iff.1 h
                  refine AOps_callR _ [i64 3, i64 3, i64 1] (tl_get rfl) rfl rfl rfl rfl Tryz.func10 (by decide) rfl ((.cons (D.le.refl _) (.cons (D.le.refl _) (.cons (D.le.refl _) (.nil))))) (layout_Cut.ok _ 3 3 1 S5 _ ht33) ?_
                  rintro _ S36 ⟨t34, hf35, rfl, e_⟩
                  have u37 : Upd _ S36 t34 _ := e_ ▸ Upd.mk' _ _ _
                  clear e_
                  have ff38 := fresh_le hB9 hf35
                  have ne39 := ne_of_fresh at8 hf35
                  have at40 := u37.tk at8 ne39
                  have at41 := u37.at_
                  have hB42 := u37.le hB9 ff38
                  refine AOps_forget 0x300000000000000 (mkS 87 [(56, bo true), (57, .sl 2 (v32.map Span.enc) (some t34))]) (by kernel_rfl) ?_
                  refine AOps_seg 1 0x500000000000000 (mkS 87 [(56, bo true), (58, i64 ((v32.map Span.enc).length : Int))]) none [32, 33, 34, 35, 36, 37, 38, 39, 40, 41, 42, 43, 44, 45, 46, 47, 48, 49, 50, 51, 52, 53, 54, 55, 56, 57, 58, 59, 60] (by kernel_rfl) (by kernel_rfl) trivial ?_
                  refine AOps_to (mkS 87 [(56, bo true), (58, i64 (v32.length : Int))]) (by rw [List.length_map]) ?_
                  refine AOps_seg 3 0x2000000000000000 (mkS 87 [(61, bo ((v32.length : Int) == 0))]) none [35, 36, 37, 38, 39, 40, 41, 42, 43, 44, 45, 46, 47, 48, 49, 50, 51, 52, 53, 54, 55, 56, 57, 58, 59, 60] (by kernel_rfl) (by kernel_rfl) trivial ?_
                  refine AOps_caseS 61 ((v32.length : Int) == 0) (by kernel_rfl) (mkS 87 [(61, bo true)]) (mkS 87 [(61, bo false)]) (by kernel_rfl) (by kernel_rfl) (fun hc44 => ?_) (fun hc44 => ?_)
                  · rw [if_t hc44] at h
                    obtain ⟨v45, ht46, h⟩ := Option.bind_eq_some_iff.1 h
                    refine AOps_callR _ [i64 0, i64 3, i64 0] (tl_get rfl) rfl rfl rfl rfl Tryz.func10 (by decide) rfl ((.cons (D.le.refl _) (.cons (D.le.refl _) (.cons (D.le.refl _) (.nil))))) (layout_Cut.ok _ 0 3 0 S36 _ ht46) ?_
                    rintro _ S49 ⟨t47, hf48, rfl, e_⟩
                    have u50 : Upd _ S49 t47 _ := e_ ▸ Upd.mk' _ _ _
                    clear e_
                    have ff51 := fresh_le hB42 hf48
                    have ne52 := ne_of_fresh at40 hf48
                    have at53 := u50.tk at40 ne52
                    have ne54 := ne_of_fresh at41 hf48
                    have at55 := u50.tk at41 ne54
                    have at56 := u50.at_
                    have hB57 := u50.le hB42 ff51
                    refine AOps_forget 0x6000000000000000 (mkS 87 [(61, bo true), (62, .sl 2 (v45.map Span.enc) (some t47))]) (by kernel_rfl) ?_
                    refine AOps_seg 1 0xa000000000000000 (mkS 87 [(61, bo true), (63, i64 ((v45.map Span.enc).length : Int))]) none [37, 38, 39, 40, 41, 42, 43, 44, 45, 46, 47, 48, 49, 50, 51, 52, 53, 54, 55, 56, 57, 58, 59, 60] (by kernel_rfl) (by kernel_rfl) trivial ?_
                    refine AOps_to (mkS 87 [(61, bo true), (63, i64 (v45.length : Int))]) (by rw [List.length_map]) ?_
                    refine AOps_seg 3 0x40000000000000000 (mkS 87 [(66, bo ((v45.length : Int) == 0))]) none [40, 41, 42, 43, 44, 45, 46, 47, 48, 49, 50, 51, 52, 53, 54, 55, 56, 57, 58, 59, 60] (by kernel_rfl) (by kernel_rfl) trivial ?_
                    refine AOps_caseS 66 ((v45.length : Int) == 0) (by kernel_rfl) (mkS 87 [(66, bo true)]) (mkS 87 [(66, bo false)]) (by kernel_rfl) (by kernel_rfl) (fun hc59 => ?_) (fun hc59 => ?_)
                    · rw [if_t hc59] at h
                      refine AOps_litS (sz := 1) (es := [[i64 (-1)]]) (tl_get rfl) rfl rfl rfl (by kernel_rfl) (by decide) (by kernel_rfl) (by decide) (by kernel_rfl) (by kernel_rfl) (by intro x hx; simp only [List.mem_cons, List.not_mem_nil, or_false] at hx; rcases hx with rfl <;> rfl) ?_
                      refine AOps_forget 0xc0000000000000000 (mkS 87 [(66, bo true), (67, .sl 1 [[i64 (-1)]] none)]) (by kernel_rfl) ?_
                      refine AOps_seg 2 0x340000000000000000 (mkS 87 [(66, bo true), (68, .ag [i64 1, i64 1, .sl 1 [[i64 (-1)]] none]), (69, .ag [str [97], i64 0, bo false])]) none [43, 44, 45, 46, 47, 48, 49, 50, 51, 52, 53, 54, 55, 56, 57, 58, 59, 60] (by kernel_rfl) (by kernel_rfl) trivial ?_
                      refine AOps_litS (sz := 3) (es := [[str [97], i64 0, bo false]]) (tl_get rfl) rfl rfl rfl (by kernel_rfl) (by decide) (by kernel_rfl) (by decide) (by kernel_rfl) (by kernel_rfl) (by intro x hx; simp only [List.mem_cons, List.not_mem_nil, or_false] at hx; rcases hx with rfl <;> rfl) ?_
                      refine AOps_forget 0x540000000000000000 (mkS 87 [(66, bo true), (68, .ag [i64 1, i64 1, .sl 1 [[i64 (-1)]] none]), (70, .sl 3 [[str [97], i64 0, bo false]] none)]) (by kernel_rfl) ?_
                      obtain ⟨v60, ht61, h⟩ := Option.bind_eq_some_iff.1 h
                      refine AOps_callR _ [.ag (Conf.enc (⟨1, 1, [(-1)]⟩ : Conf)), .sl 3 ([(⟨[97], 0, false⟩ : Col)].map Col.enc) none] (tl_get rfl) rfl rfl rfl rfl Tryz.func15 (by decide) rfl ((.cons (D.le.refl _) (.cons (D.le.refl _) (.nil)))) (layout_Check.ok _ (⟨1, 1, [(-1)]⟩ : Conf) [(⟨[97], 0, false⟩ : Col)] S49 _ ht61) ?_
                      rintro _ _ ⟨rfl, e_⟩
                      obtain rfl := e_.symm
                      refine AOps_forget 0x840000000000000000 (mkS 87 [(66, bo true), (71, i64 v60)]) (by kernel_rfl) ?_
                      refine AOps_seg 3 0x4000000000000000000 (mkS 87 [(74, bo (v60 == 0))]) none [48, 49, 50, 51, 52, 53, 54, 55, 56, 57, 58, 59, 60] (by kernel_rfl) (by kernel_rfl) trivial ?_
                      refine AOps_caseS 74 (v60 == 0) (by kernel_rfl) (mkS 87 [(74, bo true)]) (mkS 87 [(74, bo false)]) (by kernel_rfl) (by kernel_rfl) (fun hc62 => ?_) (fun hc62 => ?_)
                      · rw [if_t hc62] at h
                        refine AOps_litS (sz := 1) (es := [[i64 4]]) (tl_get rfl) rfl rfl rfl (by kernel_rfl) (by decide) (by kernel_rfl) (by decide) (by kernel_rfl) (by kernel_rfl) (by intro x hx; simp only [List.mem_cons, List.not_mem_nil, or_false] at hx; rcases hx with rfl <;> rfl) ?_
                        refine AOps_forget 0xc000000000000000000 (mkS 87 [(74, bo true), (75, .sl 1 [[i64 4]] none)]) (by kernel_rfl) ?_
                        refine AOps_seg 2 0x34000000000000000000 (mkS 87 [(74, bo true), (76, .ag [i64 1, i64 1, .sl 1 [[i64 4]] none]), (77, .ag [str [97], i64 0, bo false])]) none [51, 52, 53, 54, 55, 56, 57, 58, 59, 60] (by kernel_rfl) (by kernel_rfl) trivial ?_
                        refine AOps_litS (sz := 3) (es := [[str [97], i64 0, bo false]]) (tl_get rfl) rfl rfl rfl (by kernel_rfl) (by decide) (by kernel_rfl) (by decide) (by kernel_rfl) (by kernel_rfl) (by intro x hx; simp only [List.mem_cons, List.not_mem_nil, or_false] at hx; rcases hx with rfl <;> rfl) ?_
                        refine AOps_forget 0x54000000000000000000 (mkS 87 [(74, bo true), (76, .ag [i64 1, i64 1, .sl 1 [[i64 4]] none]), (78, .sl 3 [[str [97], i64 0, bo false]] none)]) (by kernel_rfl) ?_
                        obtain ⟨v63, ht64, h⟩ := Option.bind_eq_some_iff.1 h
                        refine AOps_callR _ [.ag (Conf.enc (⟨1, 1, [4]⟩ : Conf)), .sl 3 ([(⟨[97], 0, false⟩ : Col)].map Col.enc) none] (tl_get rfl) rfl rfl rfl rfl Tryz.func15 (by decide) rfl ((.cons (D.le.refl _) (.cons (D.le.refl _) (.nil)))) (layout_Check.ok _ (⟨1, 1, [4]⟩ : Conf) [(⟨[97], 0, false⟩ : Col)] S49 _ ht64) ?_
                        rintro _ _ ⟨rfl, e_⟩
                        obtain rfl := e_.symm
                        refine AOps_forget 0x84000000000000000000 (mkS 87 [(74, bo true), (79, i64 v63)]) (by kernel_rfl) ?_
                        refine AOps_seg 3 0x400000000000000000000 (mkS 87 [(82, bo (v63 == 3))]) none [56, 57, 58, 59, 60] (by kernel_rfl) (by kernel_rfl) trivial ?_
                        refine AOps_caseS 82 (v63 == 3) (by kernel_rfl) (mkS 87 [(82, bo true)]) (mkS 87 [(82, bo false)]) (by kernel_rfl) (by kernel_rfl) (fun hc65 => ?_) (fun hc65 => ?_)
                        · rw [if_t hc65] at h
                          refine AOps_seg 1 0xc00000000000000000000 (mkS 87 [(82, bo true), (83, .ag [i64 0, i64 0, nilS])]) none [57, 58, 59, 60] (by kernel_rfl) (by kernel_rfl) trivial ?_
                          obtain ⟨v66, ht67, h⟩ := Option.bind_eq_some_iff.1 h
                          refine AOps_callR _ [.ag (Conf.enc (⟨0, 0, []⟩ : Conf)), .sl 3 (([] : List Col).map Col.enc) none] (tl_get rfl) rfl rfl rfl rfl Tryz.func15 (by decide) rfl ((.cons (ag_le (.cons (D.le.refl _) (.cons (D.le.refl _) (.cons (nil_le) (.nil))))) (.cons (nil_le) (.nil)))) (layout_Check.ok _ (⟨0, 0, []⟩ : Conf) ([] : List Col) S49 _ ht67) ?_
                          rintro _ _ ⟨rfl, e_⟩
                          obtain rfl := e_.symm
                          refine AOps_forget 0x1400000000000000000000 (mkS 87 [(82, bo true), (84, i64 v66)]) (by kernel_rfl) ?_
                          refine AOps_seg 3 0x1 (mkS 87 [(0, bo (v66 == 1))]) none [] (by kernel_rfl) (by kernel_rfl) trivial ?_
                          refine AOps_end ?_
                          refine athen_n ?_
                          refine AT_ret ?_
                          have e_ := Option.some.inj h
                          subst e_
                          exact ⟨[bo (v66 == 1)], bo (v66 == 1), S, (.of (by kernel_rfl)), D.le.refl _, hB57, rfl, rfl⟩
                        · rw [if_f hc65] at h
                          refine AOps_seg 5 0x1 (mkS 87 [(0, bo false)]) none [] (by kernel_rfl) (by kernel_rfl) trivial ?_
                          refine AOps_end ?_
                          refine athen_n ?_
                          refine AT_ret ?_
                          have e_ := Option.some.inj h
                          subst e_
                          exact ⟨[bo false], bo false, S, (.of (by kernel_rfl)), D.le.refl _, hB57, rfl, rfl⟩
                      · rw [if_f hc62] at h
                        refine AOps_seg 13 0x1 (mkS 87 [(0, bo false)]) none [] (by kernel_rfl) (by kernel_rfl) trivial ?_
                        refine AOps_end ?_
                        refine athen_n ?_
                        refine AT_ret ?_
                        have e_ := Option.some.inj h
                        subst e_
                        exact ⟨[bo false], bo false, S, (.of (by kernel_rfl)), D.le.refl _, hB57, rfl, rfl⟩
                    · rw [if_f hc59] at h
                      refine AOps_seg 21 0x1 (mkS 87 [(0, bo false)]) none [] (by kernel_rfl) (by kernel_rfl) trivial ?_
                      refine AOps_end ?_
                      refine athen_n ?_
                      refine AT_ret ?_
                      have e_ := Option.some.inj h
                      subst e_
                      exact ⟨[bo false], bo false, S, (.of (by kernel_rfl)), D.le.refl _, hB57, rfl, rfl⟩
                  · rw [if_f hc44] at h
                    refine AOps_seg 26 0x1 (mkS 87 [(0, bo false)]) none [] (by kernel_rfl) (by kernel_rfl) trivial ?_
                    refine AOps_end ?_
                    refine athen_n ?_
                    refine AT_ret ?_
                    have e_ := Option.some.inj h
                    subst e_
                    exact ⟨[bo false], bo false, S, (.of (by kernel_rfl)), D.le.refl _, hB42, rfl, rfl⟩
                · rw [if_f hc31] at h
                  refine AOps_seg 31 0x1 (mkS 87 [(0, bo false)]) none [] (by kernel_rfl) (by kernel_rfl) trivial ?_
                  refine AOps_end ?_
                  refine athen_n ?_
                  refine AT_ret ?_
                  have e_ := Option.some.inj h
                  subst e_
                  exact ⟨[bo false], bo false, S, (.of (by kernel_rfl)), D.le.refl _, hB9, rfl, rfl⟩
              · rw [if_f hc30] at h
                refine AOps_seg 35 0x1 (mkS 87 [(0, bo false)]) none [] (by kernel_rfl) (by kernel_rfl) trivial ?_
                refine AOps_end ?_
                refine athen_n ?_
                refine AT_ret ?_
                have e_ := Option.some.inj h
                subst e_
                exact ⟨[bo false], bo false, S, (.of (by kernel_rfl)), D.le.refl _, hB9, rfl, rfl⟩
            · rw [if_f hc29] at h
              refine AOps_seg 39 0x1 (mkS 87 [(0, bo false)]) none [] (by kernel_rfl) (by kernel_rfl) trivial ?_
              refine AOps_end ?_
              refine athen_n ?_
              refine AT_ret ?_
              have e_ := Option.some.inj h
              subst e_
              exact ⟨[bo false], bo false, S, (.of (by kernel_rfl)), D.le.refl _, hB9, rfl, rfl⟩
          · rw [if_f hc28] at h
            refine AOps_seg 43 0x1 (mkS 87 [(0, bo false)]) none [] (by kernel_rfl) (by kernel_rfl) trivial ?_
            refine AOps_end ?_
            refine athen_n ?_
            refine AT_ret ?_
            have e_ := Option.some.inj h
            subst e_
            exact ⟨[bo false], bo false, S, (.of (by kernel_rfl)), D.le.refl _, hB9, rfl, rfl⟩
        · rw [if_f hc27] at h
          refine AOps_seg 47 0x1 (mkS 87 [(0, bo false)]) none [] (by kernel_rfl) (by kernel_rfl) trivial ?_
          refine AOps_end ?_
          refine athen_n ?_
          refine AT_ret ?_
          have e_ := Option.some.inj h
          subst e_
          exact ⟨[bo false], bo false, S, (.of (by kernel_rfl)), D.le.refl _, hB9, rfl, rfl⟩
      · rw [if_f hc26] at h
        refine AOps_seg 51 0x1 (mkS 87 [(0, bo false)]) none [] (by kernel_rfl) (by kernel_rfl) trivial ?_
        refine AOps_end ?_
        refine athen_n ?_
        refine AT_ret ?_
        have e_ := Option.some.inj h
        subst e_
        exact ⟨[bo false], bo false, S, (.of (by kernel_rfl)), D.le.refl _, hB9, rfl, rfl⟩
    · rw [if_f hc25] at h
      refine AOps_seg 55 0x1 (mkS 87 [(0, bo false)]) none [] (by kernel_rfl) (by kernel_rfl) trivial ?_
      refine AOps_end ?_
      refine athen_n ?_
      refine AT_ret ?_
      have e_ := Option.some.inj h
      subst e_
      exact ⟨[bo false], bo false, S, (.of (by kernel_rfl)), D.le.refl _, hB9, rfl, rfl⟩
def law18_Few.f (a0 : Int) (a1 : Int) (a2 : Int) : Option (Bool) := if (decide (a0 < 0)) = true then (some true) else (if (decide (a1 > 65536)) = true then (some true) else (if (decide (a2 < 1)) = true then (some true) else (if (decide (a0 ≥ a1)) = true then (some true) else (if a2 ≠ 0 then (some (decide ((IntKind.wrap .i64 (Int.tdiv (IntKind.wrap .i64 (a1 - a0)) a2)) < 3000))) else none))))
theorem law18_Few.ok (a0 : Int) (a1 : Int) (a2 : Int) (S : Store) (r : Bool) (h : law18_Few.f a0 a1 a2 = some r) : ACalls Tryz.prog 9 [i64 a0, i64 a1, i64 a2] S (Ret (bo r) S) := by
  unfold law18_Few.f at h
  refine acalls_of Tryz.func9 rfl ?_
  have hB : S.le S := Store.le.refl S
  refine AT_forget 0x7 (mkS 30 [(0, i64 a0), (1, i64 a1), (2, i64 a2)]) (by kernel_rfl) ?_
  refine AT_seq ?_
  refine AT_region ?_
  refine AOps_seg 1 0x7 (mkS 30 [(0, i64 a0), (1, i64 a1), (2, i64 a2)]) none [] (by kernel_rfl) (by kernel_rfl) trivial ?_
  refine AOps_end ?_
  refine athen_n ?_
  refine AT_seq ?_
  refine AT_region ?_
  refine AOps_seg 3 0x207 (mkS 30 [(0, i64 a0), (1, i64 a1), (2, i64 a2), (9, bo (decide (a0 < 0)))]) none [3, 4, 5, 6, 7, 8, 9, 10, 11, 12, 13, 14, 15, 16, 17, 18, 19, 20, 21, 22, 23] (by kernel_rfl) (by kernel_rfl) trivial ?_
  refine AOps_caseS 9 (decide (a0 < 0)) (by kernel_rfl) (mkS 30 [(0, i64 a0), (1, i64 a1), (2, i64 a2), (9, bo true)]) (mkS 30 [(0, i64 a0), (1, i64 a1), (2, i64 a2), (9, bo false)]) (by kernel_rfl) (by kernel_rfl) (fun hc1 => ?_) (fun hc1 => ?_)
  · rw [if_t hc1] at h
    refine AOps_seg 21 0x40 (mkS 30 [(6, bo true)]) none [] (by kernel_rfl) (by kernel_rfl) trivial ?_
    refine AOps_end ?_
    refine athen_n ?_
    refine AT_ret ?_
    have e_ := Option.some.inj h
    subst e_
    exact ⟨[bo true], bo true, S, (.of (by kernel_rfl)), D.le.refl _, hB, rfl, rfl⟩
  · rw [if_f hc1] at h
    refine AOps_seg 4 0x2007 (mkS 30 [(0, i64 a0), (1, i64 a1), (2, i64 a2), (13, bo (decide (a1 > 65536)))]) none [7, 8, 9, 10, 11, 12, 13, 14, 15, 16, 17, 18, 19, 20, 21, 22, 23] (by kernel_rfl) (by kernel_rfl) trivial ?_
    refine AOps_caseS 13 (decide (a1 > 65536)) (by kernel_rfl) (mkS 30 [(0, i64 a0), (1, i64 a1), (2, i64 a2), (13, bo true)]) (mkS 30 [(0, i64 a0), (1, i64 a1), (2, i64 a2), (13, bo false)]) (by kernel_rfl) (by kernel_rfl) (fun hc2 => ?_) (fun hc2 => ?_)
    · rw [if_t hc2] at h
      refine AOps_seg 17 0x40 (mkS 30 [(6, bo true)]) none [] (by kernel_rfl) (by kernel_rfl) trivial ?_
      refine AOps_end ?_
      refine athen_n ?_
      refine AT_ret ?_
      have e_ := Option.some.inj h
      subst e_
      exact ⟨[bo true], bo true, S, (.of (by kernel_rfl)), D.le.refl _, hB, rfl, rfl⟩
    · rw [if_f hc2] at h
      refine AOps_seg 4 0x20007 (mkS 30 [(0, i64 a0), (1, i64 a1), (2, i64 a2), (17, bo (decide (a2 < 1)))]) none [11, 12, 13, 14, 15, 16, 17, 18, 19, 20, 21, 22, 23] (by kernel_rfl) (by kernel_rfl) trivial ?_
      refine AOps_caseS 17 (decide (a2 < 1)) (by kernel_rfl) (mkS 30 [(0, i64 a0), (1, i64 a1), (2, i64 a2), (17, bo true)]) (mkS 30 [(0, i64 a0), (1, i64 a1), (2, i64 a2), (17, bo false)]) (by kernel_rfl) (by kernel_rfl) (fun hc3 => ?_) (fun hc3 => ?_)
      · rw [if_t hc3] at h
        refine AOps_seg 13 0x40 (mkS 30 [(6, bo true)]) none [] (by kernel_rfl) (by kernel_rfl) trivial ?_
        refine AOps_end ?_
        refine athen_n ?_
        refine AT_ret ?_
        have e_ := Option.some.inj h
        subst e_
        exact ⟨[bo true], bo true, S, (.of (by kernel_rfl)), D.le.refl _, hB, rfl, rfl⟩
      · rw [if_f hc3] at h
        refine AOps_seg 5 0x400007 (mkS 30 [(0, i64 a0), (1, i64 a1), (2, i64 a2), (22, bo (decide (a0 ≥ a1)))]) none [16, 17, 18, 19, 20, 21, 22, 23] (by kernel_rfl) (by kernel_rfl) trivial ?_
        refine AOps_caseS 22 (decide (a0 ≥ a1)) (by kernel_rfl) (mkS 30 [(0, i64 a0), (1, i64 a1), (2, i64 a2), (22, bo true)]) (mkS 30 [(0, i64 a0), (1, i64 a1), (2, i64 a2), (22, bo false)]) (by kernel_rfl) (by kernel_rfl) (fun hc4 => ?_) (fun hc4 => ?_)
        · rw [if_t hc4] at h
          refine AOps_seg 8 0x40 (mkS 30 [(6, bo true)]) none [] (by kernel_rfl) (by kernel_rfl) trivial ?_
          refine AOps_end ?_
          refine athen_n ?_
          refine AT_ret ?_
          have e_ := Option.some.inj h
          subst e_
          exact ⟨[bo true], bo true, S, (.of (by kernel_rfl)), D.le.refl _, hB, rfl, rfl⟩
        · rw [if_f hc4] at h
          by_cases hi5 : a2 ≠ 0
          rotate_left
          · rw [if_neg hi5] at h; cases h
          rw [if_pos hi5] at h
          refine AOps_seg 5 0x8400000 (mkS 30 [(22, bo false), (27, i64 (IntKind.wrap .i64 (Int.tdiv (IntKind.wrap .i64 (a1 - a0)) a2)))]) (some (a2 ≠ 0)) [21, 22, 23] (by kernel_rfl) (by kernel_rfl) (hi5) ?_
          refine AOps_seg 3 0x40 (mkS 30 [(6, bo (decide ((IntKind.wrap .i64 (Int.tdiv (IntKind.wrap .i64 (a1 - a0)) a2)) < 3000)))]) none [] (by kernel_rfl) (by kernel_rfl) trivial ?_
          refine AOps_end ?_
          refine athen_n ?_
          refine AT_ret ?_
          have e_ := Option.some.inj h
          subst e_
          exact ⟨[bo (decide ((IntKind.wrap .i64 (Int.tdiv (IntKind.wrap .i64 (a1 - a0)) a2)) < 3000))], bo (decide ((IntKind.wrap .i64 (Int.tdiv (IntKind.wrap .i64 (a1 - a0)) a2)) < 3000)), S, (.of (by kernel_rfl)), D.le.refl _, hB, rfl, rfl⟩
end Go.Proofs.YtjapfalijpfmpaaGreatDoor.Abs
