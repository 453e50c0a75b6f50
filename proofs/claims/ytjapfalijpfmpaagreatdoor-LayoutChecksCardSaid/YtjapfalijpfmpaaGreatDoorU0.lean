/- What functions of the program compute, each with the proof that it does (printed by wip/gen/all.py). -/
import Derived.Test.YtjapfalijpfmpaaGreatDoorProg
import Derived.Test.YtjapfalijpfmpaaGreatDoorAbsN
import Derived.KernelRfl
namespace Go.Proofs.YtjapfalijpfmpaaGreatDoor.Abs
open Go
set_option maxRecDepth 100000
structure Span where
  From : Int
  To : Int
  deriving DecidableEq
def Span.enc (x : Span) : List D := eI x.From ++ (eI x.To)
def Span.zero : Span := ⟨0, 0⟩
structure Conf where
  GroupRows : Int
  PageRows : Int
  Encs : (List Int)
  deriving DecidableEq
def Conf.enc (x : Conf) : List D := eI x.GroupRows ++ (eI x.PageRows ++ ((eL 1 eI) x.Encs))
def Conf.zero : Conf := ⟨0, 0, []⟩
structure Col where
  Name : (List UInt8)
  Type_ : Int
  Nullable : Bool
  deriving DecidableEq
def Col.enc (x : Col) : List D := eS x.Name ++ (eI x.Type_ ++ (eO x.Nullable))
def Col.zero : Col := ⟨[], 0, false⟩
def layout_Cut.l0 : Nat → Int → Int → (List Span) → Int → Option ((List Span))
  | 0, _, _, _, _ => none
  | k + 1, a1, a2, x57, x58 => if (decide (x58 < a1)) = true then (if (x57.length + 1) * 16 ≤ 140737488355328 then (layout_Cut.l0 k a1 a2 (x57 ++ [(⟨x58, IntKind.wrap .i64 (x58 + (if IntKind.wrap .i64 (a1 - x58) < a2 then IntKind.wrap .i64 (a1 - x58) else a2))⟩ : Span)]) (IntKind.wrap .i64 (x58 + (if IntKind.wrap .i64 (a1 - x58) < a2 then IntKind.wrap .i64 (a1 - x58) else a2)))) else none) else (some x57)
def layout_Cut.f (k : Nat) (a0 : Int) (a1 : Int) (a2 : Int) : Option ((List Span)) := if (decide (a0 < 0)) = true then (some ([] : List Span)) else (if (decide (a1 > 65536)) = true then (some ([] : List Span)) else (if (decide (a2 < 1)) = true then (some ([] : List Span)) else (layout_Cut.l0 k a1 a2 ([] : List Span) a0)))
theorem layout_Cut.mono_l : ∀ k, (∀ y0 y1 y2 y3, LeO (layout_Cut.l0 k y0 y1 y2 y3) (layout_Cut.l0 (k + 1) y0 y1 y2 y3))
  | 0 => fun _ _ _ _ r h => (by simp only [layout_Cut.l0] at h; cases h)
  | k + 1 => by
    have ih := layout_Cut.mono_l k
    · intro y0 y1 y2 y3
      rw [layout_Cut.l0, layout_Cut.l0]
      repeat' first
        | exact LeO.refl _
        | exact LeO.none _
        | exact ih _ _ _ _
        | refine LeO.ite ?_ ?_
        | refine LeO.bind ?_ (fun _ => ?_)
theorem layout_Cut.mono (k : Nat) (a0 : Int) (a1 : Int) (a2 : Int) : LeO (layout_Cut.f k a0 a1 a2) (layout_Cut.f (k + 1) a0 a1 a2) := by
  unfold layout_Cut.f
  repeat' first
    | exact LeO.refl _
    | exact LeO.none _
    | exact (layout_Cut.mono_l k) _ _ _ _
    | refine LeO.ite ?_ ?_
    | refine LeO.bind ?_ (fun _ => ?_)
theorem layout_Cut.ok (k : Nat) (a0 : Int) (a1 : Int) (a2 : Int) (S : Store) (r : (List Span)) (h : layout_Cut.f k a0 a1 a2 = some r) : ACalls Tryz.prog 10 [i64 a0, i64 a1, i64 a2] S (RetO 2 (r.map Span.enc) S) := by
  unfold layout_Cut.f at h
  refine acalls_of Tryz.func10 rfl ?_
  have hB : S.le S := Store.le.refl S
  refine AT_forget 0x7 (mkS 43 [(0, i64 a0), (1, i64 a1), (2, i64 a2)]) (by kernel_rfl) ?_
  refine AT_seq ?_
  refine AT_region ?_
  refine AOps_seg 1 0x7 (mkS 43 [(0, i64 a0), (1, i64 a1), (2, i64 a2)]) none [] (by kernel_rfl) (by kernel_rfl) trivial ?_
  refine AOps_end ?_
  refine athen_n ?_
  refine AT_seq ?_
  refine AT_seq ?_
  refine AT_region ?_
  refine AOps_seg 3 0x807 (mkS 43 [(0, i64 a0), (1, i64 a1), (2, i64 a2), (11, bo (decide (a0 < 0)))]) none [3, 4, 5, 6, 7, 8, 9] (by kernel_rfl) (by kernel_rfl) trivial ?_
  refine AOps_caseS 11 (decide (a0 < 0)) (by kernel_rfl) (mkS 43 [(0, i64 a0), (1, i64 a1), (2, i64 a2), (11, bo true)]) (mkS 43 [(0, i64 a0), (1, i64 a1), (2, i64 a2), (11, bo false)]) (by kernel_rfl) (by kernel_rfl) (fun hc25 => ?_) (fun hc25 => ?_)
  · rw [if_t hc25] at h
    refine AOps_seg 7 0x40007 (mkS 43 [(0, i64 a0), (1, i64 a1), (2, i64 a2), (18, bo true)]) none [] (by kernel_rfl) (by kernel_rfl) trivial ?_
    refine AOps_end ?_
    refine athen_n ?_
    refine AT_cond_t (by kernel_rfl) ?_
    refine AT_seq ?_
    refine AT_region ?_
    refine AOps_seg 1 0x40 (mkS 43 [(6, nilS)]) none [] (by kernel_rfl) (by kernel_rfl) trivial ?_
    refine AOps_end ?_
    refine athen_n ?_
    refine AT_nilU 6 2 (fun tk_ => mkS 43 [(6, .sl 2 [] (some tk_))]) (by kernel_rfl) (fun tk_ => by kernel_rfl) (fun S27 t26 hf29 u28 => ?_)
    have ff30 := fresh_le hB hf29
    have at31 := u28.at_
    have hB32 := u28.le hB ff30
    refine AT_ret ?_
    refine athen_r ?_
    have e_ := Option.some.inj h
    subst e_
    exact ⟨[.sl 2 [] (some t26)], .sl 2 (([] : List Span).map Span.enc) (some t26), (Store.setTk S t26 (some ((([] : List Span).map Span.enc).length, 2))), (.of (by kernel_rfl)), D.le.refl _, (le_setTk hB32 (at31.trans (by simp))), t26, ff30, rfl, rfl⟩
  · rw [if_f hc25] at h
    refine AOps_seg 4 0x8007 (mkS 43 [(0, i64 a0), (1, i64 a1), (2, i64 a2), (15, bo (decide (a1 > 65536)))]) none [7, 8, 9] (by kernel_rfl) (by kernel_rfl) trivial ?_
    refine AOps_caseS 15 (decide (a1 > 65536)) (by kernel_rfl) (mkS 43 [(0, i64 a0), (1, i64 a1), (2, i64 a2), (15, bo true)]) (mkS 43 [(0, i64 a0), (1, i64 a1), (2, i64 a2), (15, bo false)]) (by kernel_rfl) (by kernel_rfl) (fun hc33 => ?_) (fun hc33 => ?_)
    · rw [if_t hc33] at h
      refine AOps_seg 3 0x40007 (mkS 43 [(0, i64 a0), (1, i64 a1), (2, i64 a2), (18, bo true)]) none [] (by kernel_rfl) (by kernel_rfl) trivial ?_
      refine AOps_end ?_
      refine athen_n ?_
      refine AT_cond_t (by kernel_rfl) ?_
      refine AT_seq ?_
      refine AT_region ?_
      refine AOps_seg 1 0x40 (mkS 43 [(6, nilS)]) none [] (by kernel_rfl) (by kernel_rfl) trivial ?_
      refine AOps_end ?_
      refine athen_n ?_
      refine AT_nilU 6 2 (fun tk_ => mkS 43 [(6, .sl 2 [] (some tk_))]) (by kernel_rfl) (fun tk_ => by kernel_rfl) (fun S35 t34 hf37 u36 => ?_)
      have ff38 := fresh_le hB hf37
      have at39 := u36.at_
      have hB40 := u36.le hB ff38
      refine AT_ret ?_
      refine athen_r ?_
      have e_ := Option.some.inj h
      subst e_
      exact ⟨[.sl 2 [] (some t34)], .sl 2 (([] : List Span).map Span.enc) (some t34), (Store.setTk S t34 (some ((([] : List Span).map Span.enc).length, 2))), (.of (by kernel_rfl)), D.le.refl _, (le_setTk hB40 (at39.trans (by simp))), t34, ff38, rfl, rfl⟩
    · rw [if_f hc33] at h
      refine AOps_seg 3 0x40007 (mkS 43 [(0, i64 a0), (1, i64 a1), (2, i64 a2), (18, bo (decide (a2 < 1)))]) none [] (by kernel_rfl) (by kernel_rfl) trivial ?_
      refine AOps_end ?_
      refine athen_n ?_
      refine AT_condS (decide (a2 < 1)) (by kernel_rfl) (fun hc41 => ?_) (fun hc41 => ?_)
      · rw [if_t hc41] at h
        refine AT_seq ?_
        refine AT_region ?_
        refine AOps_seg 1 0x40 (mkS 43 [(6, nilS)]) none [] (by kernel_rfl) (by kernel_rfl) trivial ?_
        refine AOps_end ?_
        refine athen_n ?_
        refine AT_nilU 6 2 (fun tk_ => mkS 43 [(6, .sl 2 [] (some tk_))]) (by kernel_rfl) (fun tk_ => by kernel_rfl) (fun S43 t42 hf45 u44 => ?_)
        have ff46 := fresh_le hB hf45
        have at47 := u44.at_
        have hB48 := u44.le hB ff46
        refine AT_ret ?_
        refine athen_r ?_
        have e_ := Option.some.inj h
        subst e_
        exact ⟨[.sl 2 [] (some t42)], .sl 2 (([] : List Span).map Span.enc) (some t42), (Store.setTk S t42 (some ((([] : List Span).map Span.enc).length, 2))), (.of (by kernel_rfl)), D.le.refl _, (le_setTk hB48 (at47.trans (by simp))), t42, ff46, rfl, rfl⟩
      · rw [if_f hc41] at h
        refine AT_skip ?_
        refine athen_n ?_
        refine AT_seq ?_
        refine AT_region ?_
        refine AOps_seg 1 0x87 (mkS 43 [(0, i64 a0), (1, i64 a1), (2, i64 a2), (7, nilS)]) none [] (by kernel_rfl) (by kernel_rfl) trivial ?_
        refine AOps_end ?_
        refine athen_n ?_
        refine AT_seq ?_
        refine AT_seq ?_
        refine AT_region ?_
        refine AOps_seg 2 0x186 (mkS 43 [(1, i64 a1), (2, i64 a2), (7, nilS), (8, i64 a0)]) none [] (by kernel_rfl) (by kernel_rfl) trivial ?_
        refine AOps_end ?_
        refine athen_n ?_
        refine AT_block ?_
        refine AT_nilU 7 2 (fun tk_ => mkS 43 [(1, i64 a1), (2, i64 a2), (7, .sl 2 [] (some tk_)), (8, i64 a0)]) (by kernel_rfl) (fun tk_ => by kernel_rfl) (fun S50 t49 hf52 u51 => ?_)
        have ff53 := fresh_le hB hf52
        have at54 := u51.at_
        have hB55 := u51.le hB ff53
        refine AT_loopM 0x186 (fun k_ sl_ S59 => ∃ (x57 : (List Span)), ∃ (x58 : Int), ∃ (tk56 : Nat), sl_ = mkS 43 [(1, i64 a1), (2, i64 a2), (7, .sl 2 (x57.map Span.enc) (some tk56)), (8, i64 x58)] ∧ layout_Cut.l0 k_ a1 a2 x57 x58 = some r ∧ S59.le S ∧ S.tk tk56 = none ∧ S59.tk tk56 = some ((x57).length, 2)) k ⟨([] : List Span), a0, t49, (by kernel_rfl), h, hB55, ff53, (at54.trans (by simp))⟩ ?_
        rintro k' sl_ S59 ⟨x57, x58, tk56, rfl, h, hB60, ff61, at62⟩
        cases k' with
        | zero => cases h
        | succ k63 =>
          rw [layout_Cut.l0] at h
          refine AT_seq ?_
          refine AT_seq ?_
          refine AT_region ?_
          refine AOps_seg 3 0x400186 (mkS 43 [(1, i64 a1), (2, i64 a2), (7, .sl 2 (x57.map Span.enc) (some tk56)), (8, i64 x58), (22, bo (decide (x58 < a1)))]) none [] (by kernel_rfl) (by kernel_rfl) trivial ?_
          refine AOps_end ?_
          refine athen_n ?_
          refine AT_condS (decide (x58 < a1)) (by kernel_rfl) (fun hc64 => ?_) (fun hc64 => ?_)
          · rw [if_t hc64] at h
            refine AT_skip ?_
            refine athen_n ?_
            refine AT_seq ?_
            refine AT_block ?_
            refine AT_region ?_
            refine AOps_seg 10 0x8040000106 (mkS 43 [(1, i64 a1), (2, i64 a2), (8, i64 x58), (30, .sl 2 (x57.map Span.enc) (some tk56)), (39, .ag [i64 x58, i64 (IntKind.wrap .i64 (x58 + (if IntKind.wrap .i64 (a1 - x58) < a2 then IntKind.wrap .i64 (a1 - x58) else a2)))])]) none [10, 11, 12] (by kernel_rfl) (by kernel_rfl) trivial ?_
            refine AOps_litS (sz := 2) (es := [[i64 x58, i64 (IntKind.wrap .i64 (x58 + (if IntKind.wrap .i64 (a1 - x58) < a2 then IntKind.wrap .i64 (a1 - x58) else a2)))]]) (tl_get rfl) rfl rfl rfl (by kernel_rfl) (by decide) (by kernel_rfl) (by decide) (by kernel_rfl) (by kernel_rfl) (by intro x hx; simp only [List.mem_cons, List.not_mem_nil, or_false] at hx; rcases hx with rfl <;> rfl) ?_
            refine AOps_forget 0x10040000106 (mkS 43 [(1, i64 a1), (2, i64 a2), (8, i64 x58), (30, .sl 2 (x57.map Span.enc) (some tk56)), (40, .sl 2 [[i64 x58, i64 (IntKind.wrap .i64 (x58 + (if IntKind.wrap .i64 (a1 - x58) < a2 then IntKind.wrap .i64 (a1 - x58) else a2)))]] none)]) (by kernel_rfl) ?_
            by_cases hl68 : (x57.length + 1) * 16 ≤ 140737488355328
            rotate_left
            · rw [if_neg hl68] at h; cases h
            rw [if_pos hl68] at h
            refine AOps_appendU (bytes := 16) (es := x57.map Span.enc) (xs := [[i64 x58, i64 (IntKind.wrap .i64 (x58 + (if IntKind.wrap .i64 (a1 - x58) < a2 then IntKind.wrap .i64 (a1 - x58) else a2)))]]) (tl := none) x57.length (tl_get rfl) rfl rfl rfl (by kernel_rfl) rfl (at62.trans (by simp)) (by simp only [List.length_map, List.length_nil]) (.inl ⟨38, by kernel_rfl, rfl⟩) (by simp only [List.length_map, bytesD_len, List.length_cons, List.length_nil]; omega) (by simp only [List.length_map, bytesD_len, List.length_cons, List.length_nil]; omega) (fun S65 u66 => ?_)
            have at69 := u66.at_
            have hB70 := u66.le hB60 ff61
            refine AOps_forget 0x20000000106 (mkS 43 [(1, i64 a1), (2, i64 a2), (8, i64 x58), (41, .sl 2 ((x57.map Span.enc) ++ [[i64 x58, i64 (IntKind.wrap .i64 (x58 + (if IntKind.wrap .i64 (a1 - x58) < a2 then IntKind.wrap .i64 (a1 - x58) else a2)))]]) (some tk56))]) (by kernel_rfl) ?_
            refine AOps_to (mkS 43 [(1, i64 a1), (2, i64 a2), (8, i64 x58), (41, .sl 2 ((x57 ++ [(⟨x58, IntKind.wrap .i64 (x58 + (if IntKind.wrap .i64 (a1 - x58) < a2 then IntKind.wrap .i64 (a1 - x58) else a2))⟩ : Span)]).map Span.enc) (some tk56))]) (by rw [List.map_append]; rfl) ?_
            refine AOps_seg 1 0x186 (mkS 43 [(1, i64 a1), (2, i64 a2), (7, .sl 2 ((x57 ++ [(⟨x58, IntKind.wrap .i64 (x58 + (if IntKind.wrap .i64 (a1 - x58) < a2 then IntKind.wrap .i64 (a1 - x58) else a2))⟩ : Span)]).map Span.enc) (some tk56)), (8, i64 x58)]) none [] (by kernel_rfl) (by kernel_rfl) trivial ?_
            refine AOps_end ?_
            refine ablock_n ?_
            refine athen_n ?_
            refine AT_region ?_
            refine AOps_seg 8 0x186 (mkS 43 [(1, i64 a1), (2, i64 a2), (7, .sl 2 ((x57 ++ [(⟨x58, IntKind.wrap .i64 (x58 + (if IntKind.wrap .i64 (a1 - x58) < a2 then IntKind.wrap .i64 (a1 - x58) else a2))⟩ : Span)]).map Span.enc) (some tk56)), (8, i64 (IntKind.wrap .i64 (x58 + (if IntKind.wrap .i64 (a1 - x58) < a2 then IntKind.wrap .i64 (a1 - x58) else a2))))]) none [] (by kernel_rfl) (by kernel_rfl) trivial ?_
            refine AOps_end ?_
            refine athen_n ?_
            exact ⟨k63, (by omega), x57 ++ [(⟨x58, IntKind.wrap .i64 (x58 + (if IntKind.wrap .i64 (a1 - x58) < a2 then IntKind.wrap .i64 (a1 - x58) else a2))⟩ : Span)], IntKind.wrap .i64 (x58 + (if IntKind.wrap .i64 (a1 - x58) < a2 then IntKind.wrap .i64 (a1 - x58) else a2)), tk56, (by kernel_rfl), h, hB70, ff61, (at69.trans (by simp))⟩
          · rw [if_f hc64] at h
            refine AT_exit ?_
            refine athen_e ?_
            refine athen_e ?_
            refine ablock_h ?_
            refine athen_n ?_
            refine AT_seq ?_
            refine AT_region ?_
            refine AOps_seg 2 0x40 (mkS 43 [(6, .sl 2 (x57.map Span.enc) (some tk56))]) none [] (by kernel_rfl) (by kernel_rfl) trivial ?_
            refine AOps_end ?_
            refine athen_n ?_
            refine AT_ret ?_
            have e_ := Option.some.inj h
            subst e_
            exact ⟨[.sl 2 (x57.map Span.enc) (some tk56)], .sl 2 (x57.map Span.enc) (some tk56), (Store.setTk S tk56 (some ((x57.map Span.enc).length, 2))), (.of (by kernel_rfl)), D.le.refl _, (le_setTk hB60 (at62.trans (by simp))), tk56, ff61, rfl, rfl⟩
def layout_Over_c1_s0.f (a0 : Span) (a1 : Int) (a2 : Int) : Option (Bool) := if (decide (a0.From < a1)) = true then (if (decide (a0.To > a2)) = true then (some (decide (a2 < a1))) else (some false)) else (some false)
theorem layout_Over_c1_s0.ok (a0 : Span) (a1 : Int) (a2 : Int) (S : Store) (r : Bool) (h : layout_Over_c1_s0.f a0 a1 a2 = some r) : ACalls Tryz.prog 17 [.ag (Span.enc a0), .pt [i64 a1], .pt [i64 a2]] S (Ret (bo r) S) := by
  unfold layout_Over_c1_s0.f at h
  refine acalls_of Tryz.func17 rfl ?_
  have hB : S.le S := Store.le.refl S
  refine AT_forget 0x7 (mkS 20 [(0, .ag (Span.enc a0)), (1, .pt [i64 a1]), (2, .pt [i64 a2])]) (by kernel_rfl) ?_
  refine AT_seq ?_
  refine AT_region ?_
  refine AOps_box_im (ds := (Span.enc a0)) (tl_get rfl) rfl rfl (by kernel_rfl) ?_
  refine AOps_forget 0xe (mkS 20 [(1, .pt [i64 a1]), (2, .pt [i64 a2]), (3, .pt (Span.enc a0))]) (by kernel_rfl) ?_
  refine AOps_seg 1 0xe (mkS 20 [(1, .pt [i64 a1]), (2, .pt [i64 a2]), (3, .pt (Span.enc a0))]) none [] (by kernel_rfl) (by kernel_rfl) trivial ?_
  refine AOps_end ?_
  refine athen_n ?_
  refine AT_seq ?_
  refine AT_region ?_
  refine AOps_seg 5 0x20e (mkS 20 [(1, .pt [i64 a1]), (2, .pt [i64 a2]), (3, .pt (Span.enc a0)), (9, bo (decide (a0.From < a1)))]) none [5, 6, 7, 8, 9, 10, 11, 12, 13, 14, 15] (by kernel_rfl) (by kernel_rfl) trivial ?_
  refine AOps_caseS 9 (decide (a0.From < a1)) (by kernel_rfl) (mkS 20 [(1, .pt [i64 a1]), (2, .pt [i64 a2]), (3, .pt (Span.enc a0)), (9, bo true)]) (mkS 20 [(1, .pt [i64 a1]), (2, .pt [i64 a2]), (3, .pt (Span.enc a0)), (9, bo false)]) (by kernel_rfl) (by kernel_rfl) (fun hc1 => ?_) (fun hc1 => ?_)
  · rw [if_t hc1] at h
    refine AOps_seg 6 0x8006 (mkS 20 [(1, .pt [i64 a1]), (2, .pt [i64 a2]), (15, bo (decide (a0.To > a2)))]) none [11, 12, 13, 14, 15] (by kernel_rfl) (by kernel_rfl) trivial ?_
    refine AOps_caseS 15 (decide (a0.To > a2)) (by kernel_rfl) (mkS 20 [(1, .pt [i64 a1]), (2, .pt [i64 a2]), (15, bo true)]) (mkS 20 [(1, .pt [i64 a1]), (2, .pt [i64 a2]), (15, bo false)]) (by kernel_rfl) (by kernel_rfl) (fun hc2 => ?_) (fun hc2 => ?_)
    · rw [if_t hc2] at h
      refine AOps_seg 5 0x10 (mkS 20 [(4, bo (decide (a2 < a1)))]) none [] (by kernel_rfl) (by kernel_rfl) trivial ?_
      refine AOps_end ?_
      refine athen_n ?_
      refine AT_ret ?_
      have e_ := Option.some.inj h
      subst e_
      exact ⟨[bo (decide (a2 < a1))], bo (decide (a2 < a1)), S, (.of (by kernel_rfl)), D.le.refl _, hB, rfl, rfl⟩
    · rw [if_f hc2] at h
      refine AOps_seg 5 0x10 (mkS 20 [(4, bo false)]) none [] (by kernel_rfl) (by kernel_rfl) trivial ?_
      refine AOps_end ?_
      refine athen_n ?_
      refine AT_ret ?_
      have e_ := Option.some.inj h
      subst e_
      exact ⟨[bo false], bo false, S, (.of (by kernel_rfl)), D.le.refl _, hB, rfl, rfl⟩
  · rw [if_f hc1] at h
    refine AOps_seg 11 0x10 (mkS 20 [(4, bo false)]) none [] (by kernel_rfl) (by kernel_rfl) trivial ?_
    refine AOps_end ?_
    refine athen_n ?_
    refine AT_ret ?_
    have e_ := Option.some.inj h
    subst e_
    exact ⟨[bo false], bo false, S, (.of (by kernel_rfl)), D.le.refl _, hB, rfl, rfl⟩
def slices_IndexFunc_api_Span_s0.l0 : Nat → (List Span) → Int → Int → Int → Option (Int)
  | 0, _, _, _, _ => none
  | k + 1, a0, a1, a2, x2 => if (decide (x2 < (a0.length : Int))) = true then (if 0 ≤ x2 ∧ x2 < (a0.length : Int) then ((layout_Over_c1_s0.f (rd a0 x2 Span.zero) a1 a2).bind fun v8 => (if v8 = true then (some x2) else (slices_IndexFunc_api_Span_s0.l0 k a0 a1 a2 (IntKind.wrap .i64 (x2 + 1))))) else none) else (some (-1))
def slices_IndexFunc_api_Span_s0.f (k : Nat) (a0 : (List Span)) (a1 : Int) (a2 : Int) : Option (Int) := slices_IndexFunc_api_Span_s0.l0 k a0 a1 a2 0
theorem slices_IndexFunc_api_Span_s0.mono_l : ∀ k, (∀ y0 y1 y2 y3, LeO (slices_IndexFunc_api_Span_s0.l0 k y0 y1 y2 y3) (slices_IndexFunc_api_Span_s0.l0 (k + 1) y0 y1 y2 y3))
  | 0 => fun _ _ _ _ r h => (by simp only [slices_IndexFunc_api_Span_s0.l0] at h; cases h)
  | k + 1 => by
    have ih := slices_IndexFunc_api_Span_s0.mono_l k
    · intro y0 y1 y2 y3
      rw [slices_IndexFunc_api_Span_s0.l0, slices_IndexFunc_api_Span_s0.l0]
      repeat' first
        | exact LeO.refl _
        | exact LeO.none _
        | exact ih _ _ _ _
        | refine LeO.ite ?_ ?_
        | refine LeO.bind ?_ (fun _ => ?_)
theorem slices_IndexFunc_api_Span_s0.mono (k : Nat) (a0 : (List Span)) (a1 : Int) (a2 : Int) : LeO (slices_IndexFunc_api_Span_s0.f k a0 a1 a2) (slices_IndexFunc_api_Span_s0.f (k + 1) a0 a1 a2) := by
  unfold slices_IndexFunc_api_Span_s0.f
  repeat' first
    | exact LeO.refl _
    | exact LeO.none _
    | exact (slices_IndexFunc_api_Span_s0.mono_l k) _ _ _ _
    | refine LeO.ite ?_ ?_
    | refine LeO.bind ?_ (fun _ => ?_)
theorem slices_IndexFunc_api_Span_s0.ok (k : Nat) (a0 : (List Span)) (a1 : Int) (a2 : Int) (S : Store) (r : Int) (h : slices_IndexFunc_api_Span_s0.f k a0 a1 a2 = some r) : ACalls Tryz.prog 18 [.sl 2 (a0.map Span.enc) none, .fn (.func 17) [] [.pt [i64 a1], .pt [i64 a2]]] S (Ret (i64 r) S) := by
  unfold slices_IndexFunc_api_Span_s0.f at h
  refine acalls_of Tryz.func18 rfl ?_
  have hB : S.le S := Store.le.refl S
  refine AT_forget 0x3 (mkS 19 [(0, .sl 2 (a0.map Span.enc) none), (1, .fn (.func 17) [] [.pt [i64 a1], .pt [i64 a2]])]) (by kernel_rfl) ?_
  refine AT_seq ?_
  refine AT_region ?_
  refine AOps_seg 1 0x3 (mkS 19 [(0, .sl 2 (a0.map Span.enc) none), (1, .fn (.func 17) [] [.pt [i64 a1], .pt [i64 a2]])]) none [] (by kernel_rfl) (by kernel_rfl) trivial ?_
  refine AOps_end ?_
  refine athen_n ?_
  refine AT_seq ?_
  refine AT_seq ?_
  refine AT_region ?_
  refine AOps_seg 2 0x83 (mkS 19 [(0, .sl 2 (a0.map Span.enc) none), (1, .fn (.func 17) [] [.pt [i64 a1], .pt [i64 a2]]), (7, i64 ((a0.map Span.enc).length : Int))]) none [2] (by kernel_rfl) (by kernel_rfl) trivial ?_
  refine AOps_to (mkS 19 [(0, .sl 2 (a0.map Span.enc) none), (1, .fn (.func 17) [] [.pt [i64 a1], .pt [i64 a2]]), (7, i64 (a0.length : Int))]) (by rw [List.length_map]) ?_
  refine AOps_seg 1 0x183 (mkS 19 [(0, .sl 2 (a0.map Span.enc) none), (1, .fn (.func 17) [] [.pt [i64 a1], .pt [i64 a2]]), (7, i64 (a0.length : Int)), (8, i64 0)]) none [] (by kernel_rfl) (by kernel_rfl) trivial ?_
  refine AOps_end ?_
  refine athen_n ?_
  refine AT_block ?_
  refine AT_loopM 0x183 (fun k_ sl_ S3 => ∃ (x2 : Int), sl_ = mkS 19 [(0, .sl 2 (a0.map Span.enc) none), (1, .fn (.func 17) [] [.pt [i64 a1], .pt [i64 a2]]), (7, i64 (a0.length : Int)), (8, i64 x2)] ∧ slices_IndexFunc_api_Span_s0.l0 k_ a0 a1 a2 x2 = some r ∧ S3.le S) k ⟨0, (by kernel_rfl), h, hB⟩ ?_
  rintro k' sl_ S3 ⟨x2, rfl, h, hB4⟩
  cases k' with
  | zero => cases h
  | succ k5 =>
    rw [slices_IndexFunc_api_Span_s0.l0] at h
    refine AT_seq ?_
    refine AT_region ?_
    refine AOps_seg 1 0x383 (mkS 19 [(0, .sl 2 (a0.map Span.enc) none), (1, .fn (.func 17) [] [.pt [i64 a1], .pt [i64 a2]]), (7, i64 (a0.length : Int)), (8, i64 x2), (9, bo (decide (x2 < (a0.length : Int))))]) none [] (by kernel_rfl) (by kernel_rfl) trivial ?_
    refine AOps_end ?_
    refine athen_n ?_
    refine AT_seq ?_
    refine AT_condS (decide (x2 < (a0.length : Int))) (by kernel_rfl) (fun hc6 => ?_) (fun hc6 => ?_)
    · rw [if_t hc6] at h
      refine AT_skip ?_
      refine athen_n ?_
      refine AT_seq ?_
      refine AT_block ?_
      refine AT_seq ?_
      refine AT_region ?_
      refine AOps_seg 2 0x1a3 (mkS 19 [(0, .sl 2 (a0.map Span.enc) none), (1, .fn (.func 17) [] [.pt [i64 a1], .pt [i64 a2]]), (5, i64 x2), (7, i64 (a0.length : Int)), (8, i64 x2)]) none [] (by kernel_rfl) (by kernel_rfl) trivial ?_
      refine AOps_end ?_
      refine athen_n ?_
      refine AT_seq ?_
      refine AT_region ?_
      by_cases hi7 : 0 ≤ x2 ∧ x2 < (a0.length : Int)
      rotate_left
      · rw [if_neg hi7] at h; cases h
      rw [if_pos hi7] at h
      refine AOps_seg 4 0x49a3 (mkS 19 [(0, .sl 2 (a0.map Span.enc) none), (1, .fn (.func 17) [] [.pt [i64 a1], .pt [i64 a2]]), (5, i64 x2), (7, i64 (a0.length : Int)), (8, i64 x2), (11, .fn (.func 17) [] [.pt [i64 a1], .pt [i64 a2]]), (14, .pt ((a0.map Span.enc).getD (x2 : Int).toNat []))]) (some (0 ≤ x2 ∧ x2 < ((a0.map Span.enc).length : Int))) [4, 5] (by kernel_rfl) (by kernel_rfl) (idx_ok hi7) ?_
      refine AOps_to (mkS 19 [(0, .sl 2 (a0.map Span.enc) none), (1, .fn (.func 17) [] [.pt [i64 a1], .pt [i64 a2]]), (5, i64 x2), (7, i64 (a0.length : Int)), (8, i64 x2), (11, .fn (.func 17) [] [.pt [i64 a1], .pt [i64 a2]]), (14, .pt (Span.enc (rd a0 x2 Span.zero)))]) (by rw [pt_rd Span.enc a0 x2 Span.zero hi7.1 hi7.2]) ?_
      refine AOps_seg 1 0x89a3 (mkS 19 [(0, .sl 2 (a0.map Span.enc) none), (1, .fn (.func 17) [] [.pt [i64 a1], .pt [i64 a2]]), (5, i64 x2), (7, i64 (a0.length : Int)), (8, i64 x2), (11, .fn (.func 17) [] [.pt [i64 a1], .pt [i64 a2]]), (15, .ag (Span.enc (rd a0 x2 Span.zero)))]) none [5] (by kernel_rfl) (by kernel_rfl) trivial ?_
      obtain ⟨v8, ht9, h⟩ := Option.bind_eq_some_iff.1 h
      refine AOps_callR _ [.ag (Span.enc (rd a0 x2 Span.zero)), .pt [i64 a1], .pt [i64 a2]] (tl_get rfl) rfl rfl rfl rfl Tryz.func17 (by decide) rfl ((.cons (D.le.refl _) (.cons (D.le.refl _) (.cons (D.le.refl _) (.nil))))) (layout_Over_c1_s0.ok (rd a0 x2 Span.zero) a1 a2 S3 _ ht9) ?_
      rintro _ _ ⟨rfl, e_⟩
      obtain rfl := e_.symm
      refine AOps_forget 0x101a3 (mkS 19 [(0, .sl 2 (a0.map Span.enc) none), (1, .fn (.func 17) [] [.pt [i64 a1], .pt [i64 a2]]), (5, i64 x2), (7, i64 (a0.length : Int)), (8, i64 x2), (16, bo v8)]) (by kernel_rfl) ?_
      refine AOps_end ?_
      refine athen_n ?_
      refine AT_condS v8 (by kernel_rfl) (fun hc10 => ?_) (fun hc10 => ?_)
      · rw [if_t hc10] at h
        refine AT_seq ?_
        refine AT_region ?_
        refine AOps_seg 2 0x10 (mkS 19 [(4, i64 x2)]) none [] (by kernel_rfl) (by kernel_rfl) trivial ?_
        refine AOps_end ?_
        refine athen_n ?_
        refine AT_ret ?_
        refine ablock_r ?_
        refine athen_r ?_
        refine athen_r ?_
        refine ablock_r ?_
        refine athen_r ?_
        have e_ := Option.some.inj h
        subst e_
        exact ⟨[i64 x2], i64 x2, S, (.of (by kernel_rfl)), D.le.refl _, hB4, rfl, rfl⟩
      · rw [if_f hc10] at h
        refine AT_skip ?_
        refine ablock_n ?_
        refine athen_n ?_
        refine AT_region ?_
        refine AOps_seg 2 0x183 (mkS 19 [(0, .sl 2 (a0.map Span.enc) none), (1, .fn (.func 17) [] [.pt [i64 a1], .pt [i64 a2]]), (7, i64 (a0.length : Int)), (8, i64 (IntKind.wrap .i64 (x2 + 1)))]) none [] (by kernel_rfl) (by kernel_rfl) trivial ?_
        refine AOps_end ?_
        refine athen_n ?_
        exact ⟨k5, (by omega), IntKind.wrap .i64 (x2 + 1), (by kernel_rfl), h, hB4⟩
    · rw [if_f hc6] at h
      refine AT_exit ?_
      refine athen_e ?_
      refine athen_e ?_
      refine ablock_h ?_
      refine athen_n ?_
      refine AT_seq ?_
      refine AT_region ?_
      refine AOps_seg 1 0x10 (mkS 19 [(4, i64 (-1))]) none [] (by kernel_rfl) (by kernel_rfl) trivial ?_
      refine AOps_end ?_
      refine athen_n ?_
      refine AT_ret ?_
      have e_ := Option.some.inj h
      subst e_
      exact ⟨[i64 (-1)], i64 (-1), S, (.of (by kernel_rfl)), D.le.refl _, hB4, rfl, rfl⟩
def layout_Over_c2_s0.f (a0 : Span) (a1 : Int) (a2 : Int) : Option (Bool) := (layout_Over_c1_s0.f a0 a1 a2).bind fun v1 => (some (!v1))
theorem layout_Over_c2_s0.ok (a0 : Span) (a1 : Int) (a2 : Int) (S : Store) (r : Bool) (h : layout_Over_c2_s0.f a0 a1 a2 = some r) : ACalls Tryz.prog 19 [.ag (Span.enc a0), .pt [.fn (.func 17) [] [.pt [i64 a1], .pt [i64 a2]]]] S (Ret (bo r) S) := by
  unfold layout_Over_c2_s0.f at h
  refine acalls_of Tryz.func19 rfl ?_
  have hB : S.le S := Store.le.refl S
  refine AT_forget 0x3 (mkS 8 [(0, .ag (Span.enc a0)), (1, .pt [.fn (.func 17) [] [.pt [i64 a1], .pt [i64 a2]]])]) (by kernel_rfl) ?_
  refine AT_seq ?_
  refine AT_region ?_
  refine AOps_box_im (ds := (Span.enc a0)) (tl_get rfl) rfl rfl (by kernel_rfl) ?_
  refine AOps_forget 0x6 (mkS 8 [(1, .pt [.fn (.func 17) [] [.pt [i64 a1], .pt [i64 a2]]]), (2, .pt (Span.enc a0))]) (by kernel_rfl) ?_
  refine AOps_seg 1 0x6 (mkS 8 [(1, .pt [.fn (.func 17) [] [.pt [i64 a1], .pt [i64 a2]]]), (2, .pt (Span.enc a0))]) none [] (by kernel_rfl) (by kernel_rfl) trivial ?_
  refine AOps_end ?_
  refine athen_n ?_
  refine AT_seq ?_
  refine AT_region ?_
  refine AOps_seg 2 0x30 (mkS 8 [(4, .fn (.func 17) [] [.pt [i64 a1], .pt [i64 a2]]), (5, .ag (Span.enc a0))]) none [2, 3, 4] (by kernel_rfl) (by kernel_rfl) trivial ?_
  obtain ⟨v1, ht2, h⟩ := Option.bind_eq_some_iff.1 h
  refine AOps_callR _ [.ag (Span.enc a0), .pt [i64 a1], .pt [i64 a2]] (tl_get rfl) rfl rfl rfl rfl Tryz.func17 (by decide) rfl ((.cons (D.le.refl _) (.cons (D.le.refl _) (.cons (D.le.refl _) (.nil))))) (layout_Over_c1_s0.ok a0 a1 a2 S _ ht2) ?_
  rintro _ _ ⟨rfl, e_⟩
  obtain rfl := e_.symm
  refine AOps_forget 0x40 (mkS 8 [(6, bo v1)]) (by kernel_rfl) ?_
  refine AOps_seg 2 0x8 (mkS 8 [(3, bo (!v1))]) none [] (by kernel_rfl) (by kernel_rfl) trivial ?_
  refine AOps_end ?_
  refine athen_n ?_
  refine AT_ret ?_
  have e_ := Option.some.inj h
  subst e_
  exact ⟨[bo (!v1)], bo (!v1), S, (.of (by kernel_rfl)), D.le.refl _, hB, rfl, rfl⟩
def slices_IndexFunc_api_Span_s1.l0 : Nat → (List Span) → Int → Int → Int → Option (Int)
  | 0, _, _, _, _ => none
  | k + 1, a0, a1, a2, x2 => if (decide (x2 < (a0.length : Int))) = true then (if 0 ≤ x2 ∧ x2 < (a0.length : Int) then ((layout_Over_c2_s0.f (rd a0 x2 Span.zero) a1 a2).bind fun v8 => (if v8 = true then (some x2) else (slices_IndexFunc_api_Span_s1.l0 k a0 a1 a2 (IntKind.wrap .i64 (x2 + 1))))) else none) else (some (-1))
def slices_IndexFunc_api_Span_s1.f (k : Nat) (a0 : (List Span)) (a1 : Int) (a2 : Int) : Option (Int) := slices_IndexFunc_api_Span_s1.l0 k a0 a1 a2 0
theorem slices_IndexFunc_api_Span_s1.mono_l : ∀ k, (∀ y0 y1 y2 y3, LeO (slices_IndexFunc_api_Span_s1.l0 k y0 y1 y2 y3) (slices_IndexFunc_api_Span_s1.l0 (k + 1) y0 y1 y2 y3))
  | 0 => fun _ _ _ _ r h => (by simp only [slices_IndexFunc_api_Span_s1.l0] at h; cases h)
  | k + 1 => by
    have ih := slices_IndexFunc_api_Span_s1.mono_l k
    · intro y0 y1 y2 y3
      rw [slices_IndexFunc_api_Span_s1.l0, slices_IndexFunc_api_Span_s1.l0]
      repeat' first
        | exact LeO.refl _
        | exact LeO.none _
        | exact ih _ _ _ _
        | refine LeO.ite ?_ ?_
        | refine LeO.bind ?_ (fun _ => ?_)
theorem slices_IndexFunc_api_Span_s1.mono (k : Nat) (a0 : (List Span)) (a1 : Int) (a2 : Int) : LeO (slices_IndexFunc_api_Span_s1.f k a0 a1 a2) (slices_IndexFunc_api_Span_s1.f (k + 1) a0 a1 a2) := by
  unfold slices_IndexFunc_api_Span_s1.f
  repeat' first
    | exact LeO.refl _
    | exact LeO.none _
    | exact (slices_IndexFunc_api_Span_s1.mono_l k) _ _ _ _
    | refine LeO.ite ?_ ?_
    | refine LeO.bind ?_ (fun _ => ?_)
theorem slices_IndexFunc_api_Span_s1.ok (k : Nat) (a0 : (List Span)) (a1 : Int) (a2 : Int) (S : Store) (r : Int) (h : slices_IndexFunc_api_Span_s1.f k a0 a1 a2 = some r) : ACalls Tryz.prog 18 [.sl 2 (a0.map Span.enc) none, .fn (.func 19) [] [.pt [.fn (.func 17) [] [.pt [i64 a1], .pt [i64 a2]]]]] S (Ret (i64 r) S) := by
  unfold slices_IndexFunc_api_Span_s1.f at h
  refine acalls_of Tryz.func18 rfl ?_
  have hB : S.le S := Store.le.refl S
  refine AT_forget 0x3 (mkS 19 [(0, .sl 2 (a0.map Span.enc) none), (1, .fn (.func 19) [] [.pt [.fn (.func 17) [] [.pt [i64 a1], .pt [i64 a2]]]])]) (by kernel_rfl) ?_
  refine AT_seq ?_
  refine AT_region ?_
  refine AOps_seg 1 0x3 (mkS 19 [(0, .sl 2 (a0.map Span.enc) none), (1, .fn (.func 19) [] [.pt [.fn (.func 17) [] [.pt [i64 a1], .pt [i64 a2]]]])]) none [] (by kernel_rfl) (by kernel_rfl) trivial ?_
  refine AOps_end ?_
  refine athen_n ?_
  refine AT_seq ?_
  refine AT_seq ?_
  refine AT_region ?_
  refine AOps_seg 2 0x83 (mkS 19 [(0, .sl 2 (a0.map Span.enc) none), (1, .fn (.func 19) [] [.pt [.fn (.func 17) [] [.pt [i64 a1], .pt [i64 a2]]]]), (7, i64 ((a0.map Span.enc).length : Int))]) none [2] (by kernel_rfl) (by kernel_rfl) trivial ?_
  refine AOps_to (mkS 19 [(0, .sl 2 (a0.map Span.enc) none), (1, .fn (.func 19) [] [.pt [.fn (.func 17) [] [.pt [i64 a1], .pt [i64 a2]]]]), (7, i64 (a0.length : Int))]) (by rw [List.length_map]) ?_
  refine AOps_seg 1 0x183 (mkS 19 [(0, .sl 2 (a0.map Span.enc) none), (1, .fn (.func 19) [] [.pt [.fn (.func 17) [] [.pt [i64 a1], .pt [i64 a2]]]]), (7, i64 (a0.length : Int)), (8, i64 0)]) none [] (by kernel_rfl) (by kernel_rfl) trivial ?_
  refine AOps_end ?_
  refine athen_n ?_
  refine AT_block ?_
  refine AT_loopM 0x183 (fun k_ sl_ S3 => ∃ (x2 : Int), sl_ = mkS 19 [(0, .sl 2 (a0.map Span.enc) none), (1, .fn (.func 19) [] [.pt [.fn (.func 17) [] [.pt [i64 a1], .pt [i64 a2]]]]), (7, i64 (a0.length : Int)), (8, i64 x2)] ∧ slices_IndexFunc_api_Span_s1.l0 k_ a0 a1 a2 x2 = some r ∧ S3.le S) k ⟨0, (by kernel_rfl), h, hB⟩ ?_
  rintro k' sl_ S3 ⟨x2, rfl, h, hB4⟩
  cases k' with
  | zero => cases h
  | succ k5 =>
    rw [slices_IndexFunc_api_Span_s1.l0] at h
    refine AT_seq ?_
    refine AT_region ?_
    refine AOps_seg 1 0x383 (mkS 19 [(0, .sl 2 (a0.map Span.enc) none), (1, .fn (.func 19) [] [.pt [.fn (.func 17) [] [.pt [i64 a1], .pt [i64 a2]]]]), (7, i64 (a0.length : Int)), (8, i64 x2), (9, bo (decide (x2 < (a0.length : Int))))]) none [] (by kernel_rfl) (by kernel_rfl) trivial ?_
    refine AOps_end ?_
    refine athen_n ?_
    refine AT_seq ?_
    refine AT_condS (decide (x2 < (a0.length : Int))) (by kernel_rfl) (fun hc6 => ?_) (fun hc6 => ?_)
    · rw [if_t hc6] at h
      refine AT_skip ?_
      refine athen_n ?_
      refine AT_seq ?_
      refine AT_block ?_
      refine AT_seq ?_
      refine AT_region ?_
      refine AOps_seg 2 0x1a3 (mkS 19 [(0, .sl 2 (a0.map Span.enc) none), (1, .fn (.func 19) [] [.pt [.fn (.func 17) [] [.pt [i64 a1], .pt [i64 a2]]]]), (5, i64 x2), (7, i64 (a0.length : Int)), (8, i64 x2)]) none [] (by kernel_rfl) (by kernel_rfl) trivial ?_
      refine AOps_end ?_
      refine athen_n ?_
      refine AT_seq ?_
      refine AT_region ?_
      by_cases hi7 : 0 ≤ x2 ∧ x2 < (a0.length : Int)
      rotate_left
      · rw [if_neg hi7] at h; cases h
      rw [if_pos hi7] at h
      refine AOps_seg 4 0x49a3 (mkS 19 [(0, .sl 2 (a0.map Span.enc) none), (1, .fn (.func 19) [] [.pt [.fn (.func 17) [] [.pt [i64 a1], .pt [i64 a2]]]]), (5, i64 x2), (7, i64 (a0.length : Int)), (8, i64 x2), (11, .fn (.func 19) [] [.pt [.fn (.func 17) [] [.pt [i64 a1], .pt [i64 a2]]]]), (14, .pt ((a0.map Span.enc).getD (x2 : Int).toNat []))]) (some (0 ≤ x2 ∧ x2 < ((a0.map Span.enc).length : Int))) [4, 5] (by kernel_rfl) (by kernel_rfl) (idx_ok hi7) ?_
      refine AOps_to (mkS 19 [(0, .sl 2 (a0.map Span.enc) none), (1, .fn (.func 19) [] [.pt [.fn (.func 17) [] [.pt [i64 a1], .pt [i64 a2]]]]), (5, i64 x2), (7, i64 (a0.length : Int)), (8, i64 x2), (11, .fn (.func 19) [] [.pt [.fn (.func 17) [] [.pt [i64 a1], .pt [i64 a2]]]]), (14, .pt (Span.enc (rd a0 x2 Span.zero)))]) (by rw [pt_rd Span.enc a0 x2 Span.zero hi7.1 hi7.2]) ?_
      refine AOps_seg 1 0x89a3 (mkS 19 [(0, .sl 2 (a0.map Span.enc) none), (1, .fn (.func 19) [] [.pt [.fn (.func 17) [] [.pt [i64 a1], .pt [i64 a2]]]]), (5, i64 x2), (7, i64 (a0.length : Int)), (8, i64 x2), (11, .fn (.func 19) [] [.pt [.fn (.func 17) [] [.pt [i64 a1], .pt [i64 a2]]]]), (15, .ag (Span.enc (rd a0 x2 Span.zero)))]) none [5] (by kernel_rfl) (by kernel_rfl) trivial ?_
      obtain ⟨v8, ht9, h⟩ := Option.bind_eq_some_iff.1 h
      refine AOps_callR _ [.ag (Span.enc (rd a0 x2 Span.zero)), .pt [.fn (.func 17) [] [.pt [i64 a1], .pt [i64 a2]]]] (tl_get rfl) rfl rfl rfl rfl Tryz.func19 (by decide) rfl ((.cons (D.le.refl _) (.cons (D.le.refl _) (.nil)))) (layout_Over_c2_s0.ok (rd a0 x2 Span.zero) a1 a2 S3 _ ht9) ?_
      rintro _ _ ⟨rfl, e_⟩
      obtain rfl := e_.symm
      refine AOps_forget 0x101a3 (mkS 19 [(0, .sl 2 (a0.map Span.enc) none), (1, .fn (.func 19) [] [.pt [.fn (.func 17) [] [.pt [i64 a1], .pt [i64 a2]]]]), (5, i64 x2), (7, i64 (a0.length : Int)), (8, i64 x2), (16, bo v8)]) (by kernel_rfl) ?_
      refine AOps_end ?_
      refine athen_n ?_
      refine AT_condS v8 (by kernel_rfl) (fun hc10 => ?_) (fun hc10 => ?_)
      · rw [if_t hc10] at h
        refine AT_seq ?_
        refine AT_region ?_
        refine AOps_seg 2 0x10 (mkS 19 [(4, i64 x2)]) none [] (by kernel_rfl) (by kernel_rfl) trivial ?_
        refine AOps_end ?_
        refine athen_n ?_
        refine AT_ret ?_
        refine ablock_r ?_
        refine athen_r ?_
        refine athen_r ?_
        refine ablock_r ?_
        refine athen_r ?_
        have e_ := Option.some.inj h
        subst e_
        exact ⟨[i64 x2], i64 x2, S, (.of (by kernel_rfl)), D.le.refl _, hB4, rfl, rfl⟩
      · rw [if_f hc10] at h
        refine AT_skip ?_
        refine ablock_n ?_
        refine athen_n ?_
        refine AT_region ?_
        refine AOps_seg 2 0x183 (mkS 19 [(0, .sl 2 (a0.map Span.enc) none), (1, .fn (.func 19) [] [.pt [.fn (.func 17) [] [.pt [i64 a1], .pt [i64 a2]]]]), (7, i64 (a0.length : Int)), (8, i64 (IntKind.wrap .i64 (x2 + 1)))]) none [] (by kernel_rfl) (by kernel_rfl) trivial ?_
        refine AOps_end ?_
        refine athen_n ?_
        exact ⟨k5, (by omega), IntKind.wrap .i64 (x2 + 1), (by kernel_rfl), h, hB4⟩
    · rw [if_f hc6] at h
      refine AT_exit ?_
      refine athen_e ?_
      refine athen_e ?_
      refine ablock_h ?_
      refine athen_n ?_
      refine AT_seq ?_
      refine AT_region ?_
      refine AOps_seg 1 0x10 (mkS 19 [(4, i64 (-1))]) none [] (by kernel_rfl) (by kernel_rfl) trivial ?_
      refine AOps_end ?_
      refine athen_n ?_
      refine AT_ret ?_
      have e_ := Option.some.inj h
      subst e_
      exact ⟨[i64 (-1)], i64 (-1), S, (.of (by kernel_rfl)), D.le.refl _, hB4, rfl, rfl⟩
def layout_Over.f (k : Nat) (a0 : (List Span)) (a1 : Int) (a2 : Int) : Option (Int × Int) := (slices_IndexFunc_api_Span_s0.f k a0 a2 a1).bind fun v1 => (if (decide (v1 < 0)) = true then (some (0, 0)) else (if 0 ≤ v1 ∧ v1 ≤ (a0.length : Int) then ((slices_IndexFunc_api_Span_s1.f k (a0.drop (v1 : Int).toNat) a2 a1).bind fun v5 => (if (decide (v5 < 0)) = true then (some (v1, (a0.length : Int))) else (some (v1, IntKind.wrap .i64 (v1 + v5))))) else none))
theorem layout_Over.mono (k : Nat) (a0 : (List Span)) (a1 : Int) (a2 : Int) : LeO (layout_Over.f k a0 a1 a2) (layout_Over.f (k + 1) a0 a1 a2) := by
  unfold layout_Over.f
  repeat' first
    | exact LeO.refl _
    | exact LeO.none _
    | exact slices_IndexFunc_api_Span_s0.mono _ _ _ _
    | exact slices_IndexFunc_api_Span_s1.mono _ _ _ _
    | refine LeO.ite ?_ ?_
    | refine LeO.bind ?_ (fun _ => ?_)
theorem layout_Over.ok (k : Nat) (a0 : (List Span)) (a1 : Int) (a2 : Int) (S : Store) (r0 : Int) (r1 : Int) (h : layout_Over.f k a0 a1 a2 = some (r0, r1)) : ACalls Tryz.prog 12 [.sl 2 (a0.map Span.enc) none, i64 a1, i64 a2] S (RetL [.p (i64 r0), .p (i64 r1)] S) := by
  unfold layout_Over.f at h
  refine acalls_of Tryz.func12 rfl ?_
  have hB : S.le S := Store.le.refl S
  refine AT_forget 0x7 (mkS 31 [(0, .sl 2 (a0.map Span.enc) none), (1, i64 a1), (2, i64 a2)]) (by kernel_rfl) ?_
  refine AT_seq ?_
  refine AT_region ?_
  refine AOps_box_im (ds := [i64 a1]) (tl_get rfl) rfl rfl (by kernel_rfl) ?_
  refine AOps_forget 0x15 (mkS 31 [(0, .sl 2 (a0.map Span.enc) none), (2, i64 a2), (4, .pt [i64 a1])]) (by kernel_rfl) ?_
  refine AOps_box_im (ds := [i64 a2]) (tl_get rfl) rfl rfl (by kernel_rfl) ?_
  refine AOps_forget 0x31 (mkS 31 [(0, .sl 2 (a0.map Span.enc) none), (4, .pt [i64 a1]), (5, .pt [i64 a2])]) (by kernel_rfl) ?_
  refine AOps_seg 2 0x31 (mkS 31 [(0, .sl 2 (a0.map Span.enc) none), (4, .pt [i64 a1]), (5, .pt [i64 a2])]) none [] (by kernel_rfl) (by kernel_rfl) trivial ?_
  refine AOps_end ?_
  refine athen_n ?_
  refine AT_seq ?_
  refine AT_region ?_
  refine AOps_seg 1 0x801 (mkS 31 [(0, .sl 2 (a0.map Span.enc) none), (11, .fn (.func 17) [] [.pt [i64 a2], .pt [i64 a1]])]) none [1, 2] (by kernel_rfl) (by kernel_rfl) trivial ?_
  refine AOps_newvar (zs := [.lit .nilFunc]) (ds := [.fn (.func 17) [] [.pt [i64 a2], .pt [i64 a1]]]) (d := 8) (tl_get rfl) rfl rfl rfl (by kernel_rfl) (by kernel_rfl) (tl_get rfl) (fun _ => rfl) rfl rfl (fun _ => rfl) rfl (by kernel_rfl) (by kernel_rfl) ?_
  refine AOps_forget 0x101 (mkS 31 [(0, .sl 2 (a0.map Span.enc) none), (8, .pt [.fn (.func 17) [] [.pt [i64 a2], .pt [i64 a1]]])]) (by kernel_rfl) ?_
  refine AOps_end ?_
  refine athen_n ?_
  refine AT_seq ?_
  refine AT_region ?_
  refine AOps_seg 2 0x3101 (mkS 31 [(0, .sl 2 (a0.map Span.enc) none), (8, .pt [.fn (.func 17) [] [.pt [i64 a2], .pt [i64 a1]]]), (12, .sl 2 (a0.map Span.enc) none), (13, .fn (.func 17) [] [.pt [i64 a2], .pt [i64 a1]])]) none [2, 3] (by kernel_rfl) (by kernel_rfl) trivial ?_
  obtain ⟨v1, ht2, h⟩ := Option.bind_eq_some_iff.1 h
  refine AOps_callR _ [.sl 2 (a0.map Span.enc) none, .fn (.func 17) [] [.pt [i64 a2], .pt [i64 a1]]] (tl_get rfl) rfl rfl rfl rfl Tryz.func18 (by decide) rfl ((.cons (D.le.refl _) (.cons (D.le.refl _) (.nil)))) (slices_IndexFunc_api_Span_s0.ok _ a0 a2 a1 S _ ht2) ?_
  rintro _ _ ⟨rfl, e_⟩
  obtain rfl := e_.symm
  refine AOps_forget 0x4101 (mkS 31 [(0, .sl 2 (a0.map Span.enc) none), (8, .pt [.fn (.func 17) [] [.pt [i64 a2], .pt [i64 a1]]]), (14, i64 v1)]) (by kernel_rfl) ?_
  refine AOps_seg 1 0x301 (mkS 31 [(0, .sl 2 (a0.map Span.enc) none), (8, .pt [.fn (.func 17) [] [.pt [i64 a2], .pt [i64 a1]]]), (9, i64 v1)]) none [] (by kernel_rfl) (by kernel_rfl) trivial ?_
  refine AOps_end ?_
  refine athen_n ?_
  refine AT_seq ?_
  refine AT_seq ?_
  refine AT_region ?_
  refine AOps_seg 2 0x10301 (mkS 31 [(0, .sl 2 (a0.map Span.enc) none), (8, .pt [.fn (.func 17) [] [.pt [i64 a2], .pt [i64 a1]]]), (9, i64 v1), (16, bo (decide (v1 < 0)))]) none [] (by kernel_rfl) (by kernel_rfl) trivial ?_
  refine AOps_end ?_
  refine athen_n ?_
  refine AT_condS (decide (v1 < 0)) (by kernel_rfl) (fun hc3 => ?_) (fun hc3 => ?_)
  · rw [if_t hc3] at h
    refine AT_seq ?_
    refine AT_region ?_
    refine AOps_seg 2 0xc0 (mkS 31 [(6, i64 0), (7, i64 0)]) none [] (by kernel_rfl) (by kernel_rfl) trivial ?_
    refine AOps_end ?_
    refine athen_n ?_
    refine AT_ret ?_
    refine athen_r ?_
    have e0_ : 0 = r0 := congrArg (fun p_ => p_.1) (Option.some.inj h)
    have e1_ : 0 = r1 := congrArg (fun p_ => p_.2) (Option.some.inj h)
    subst e0_
    subst e1_
    exact ⟨[i64 0, i64 0], .tup [i64 0, i64 0], S, (.of (by kernel_rfl)), D.le.refl _, hB, _, rfl, ⟨_, rfl, ⟨_, rfl, ⟨rfl, rfl⟩⟩⟩⟩
  · rw [if_f hc3] at h
    refine AT_skip ?_
    refine athen_n ?_
    refine AT_seq ?_
    refine AT_region ?_
    by_cases hi4 : 0 ≤ v1 ∧ v1 ≤ (a0.length : Int)
    rotate_left
    · rw [if_neg hi4] at h; cases h
    rw [if_pos hi4] at h
    refine AOps_seg 3 0x80301 (mkS 31 [(0, .sl 2 (a0.map Span.enc) none), (8, .pt [.fn (.func 17) [] [.pt [i64 a2], .pt [i64 a1]]]), (9, i64 v1), (19, .sl 2 ((a0.map Span.enc).drop (v1 : Int).toNat) none)]) (some (0 ≤ v1 ∧ v1 ≤ ((a0.map Span.enc).length : Int))) [3, 4, 5] (by kernel_rfl) (by kernel_rfl) ((by rw [List.length_map]; exact hi4)) ?_
    refine AOps_to (mkS 31 [(0, .sl 2 (a0.map Span.enc) none), (8, .pt [.fn (.func 17) [] [.pt [i64 a2], .pt [i64 a1]]]), (9, i64 v1), (19, .sl 2 ((a0.drop (v1 : Int).toNat).map Span.enc) none)]) (by simp only [List.map_take, List.map_drop]) ?_
    refine AOps_seg 1 0x180201 (mkS 31 [(0, .sl 2 (a0.map Span.enc) none), (9, i64 v1), (19, .sl 2 ((a0.drop (v1 : Int).toNat).map Span.enc) none), (20, .fn (.func 19) [] [.pt [.fn (.func 17) [] [.pt [i64 a2], .pt [i64 a1]]]])]) none [4, 5] (by kernel_rfl) (by kernel_rfl) trivial ?_
    obtain ⟨v5, ht6, h⟩ := Option.bind_eq_some_iff.1 h
    refine AOps_callR _ [.sl 2 ((a0.drop (v1 : Int).toNat).map Span.enc) none, .fn (.func 19) [] [.pt [.fn (.func 17) [] [.pt [i64 a2], .pt [i64 a1]]]]] (tl_get rfl) rfl rfl rfl rfl Tryz.func18 (by decide) rfl ((.cons (D.le.refl _) (.cons (D.le.refl _) (.nil)))) (slices_IndexFunc_api_Span_s1.ok _ (a0.drop (v1 : Int).toNat) a2 a1 S _ ht6) ?_
    rintro _ _ ⟨rfl, e_⟩
    obtain rfl := e_.symm
    refine AOps_forget 0x200201 (mkS 31 [(0, .sl 2 (a0.map Span.enc) none), (9, i64 v1), (21, i64 v5)]) (by kernel_rfl) ?_
    refine AOps_seg 1 0x601 (mkS 31 [(0, .sl 2 (a0.map Span.enc) none), (9, i64 v1), (10, i64 v5)]) none [] (by kernel_rfl) (by kernel_rfl) trivial ?_
    refine AOps_end ?_
    refine athen_n ?_
    refine AT_seq ?_
    refine AT_seq ?_
    refine AT_region ?_
    refine AOps_seg 2 0x800601 (mkS 31 [(0, .sl 2 (a0.map Span.enc) none), (9, i64 v1), (10, i64 v5), (23, bo (decide (v5 < 0)))]) none [] (by kernel_rfl) (by kernel_rfl) trivial ?_
    refine AOps_end ?_
    refine athen_n ?_
    refine AT_condS (decide (v5 < 0)) (by kernel_rfl) (fun hc7 => ?_) (fun hc7 => ?_)
    · rw [if_t hc7] at h
      refine AT_seq ?_
      refine AT_region ?_
      refine AOps_seg 3 0x5000000 (mkS 31 [(24, i64 v1), (26, i64 ((a0.map Span.enc).length : Int))]) none [3, 4] (by kernel_rfl) (by kernel_rfl) trivial ?_
      refine AOps_to (mkS 31 [(24, i64 v1), (26, i64 (a0.length : Int))]) (by rw [List.length_map]) ?_
      refine AOps_seg 2 0xc0 (mkS 31 [(6, i64 v1), (7, i64 (a0.length : Int))]) none [] (by kernel_rfl) (by kernel_rfl) trivial ?_
      refine AOps_end ?_
      refine athen_n ?_
      refine AT_ret ?_
      refine athen_r ?_
      have e0_ : v1 = r0 := congrArg (fun p_ => p_.1) (Option.some.inj h)
      have e1_ : (a0.length : Int) = r1 := congrArg (fun p_ => p_.2) (Option.some.inj h)
      subst e0_
      subst e1_
      exact ⟨[i64 v1, i64 (a0.length : Int)], .tup [i64 v1, i64 (a0.length : Int)], S, (.of (by kernel_rfl)), D.le.refl _, hB, _, rfl, ⟨_, rfl, ⟨_, rfl, ⟨rfl, rfl⟩⟩⟩⟩
    · rw [if_f hc7] at h
      refine AT_skip ?_
      refine athen_n ?_
      refine AT_seq ?_
      refine AT_region ?_
      refine AOps_seg 6 0xc0 (mkS 31 [(6, i64 v1), (7, i64 (IntKind.wrap .i64 (v1 + v5)))]) none [] (by kernel_rfl) (by kernel_rfl) trivial ?_
      refine AOps_end ?_
      refine athen_n ?_
      refine AT_ret ?_
      have e0_ : v1 = r0 := congrArg (fun p_ => p_.1) (Option.some.inj h)
      have e1_ : IntKind.wrap .i64 (v1 + v5) = r1 := congrArg (fun p_ => p_.2) (Option.some.inj h)
      subst e0_
      subst e1_
      exact ⟨[i64 v1, i64 (IntKind.wrap .i64 (v1 + v5))], .tup [i64 v1, i64 (IntKind.wrap .i64 (v1 + v5))], S, (.of (by kernel_rfl)), D.le.refl _, hB, _, rfl, ⟨_, rfl, ⟨_, rfl, ⟨rfl, rfl⟩⟩⟩⟩
def layout_rows.f (a0 : Int) : Option (Bool) := if (decide (a0 ≥ 1)) = true then (some (decide (a0 ≤ 65536))) else (some false)
theorem layout_rows.ok (a0 : Int) (S : Store) (r : Bool) (h : layout_rows.f a0 = some r) : ACalls Tryz.prog 20 [i64 a0] S (Ret (bo r) S) := by
  unfold layout_rows.f at h
  refine acalls_of Tryz.func20 rfl ?_
  have hB : S.le S := Store.le.refl S
  refine AT_forget 0x1 (mkS 9 [(0, i64 a0)]) (by kernel_rfl) ?_
  refine AT_seq ?_
  refine AT_region ?_
  refine AOps_seg 1 0x1 (mkS 9 [(0, i64 a0)]) none [] (by kernel_rfl) (by kernel_rfl) trivial ?_
  refine AOps_end ?_
  refine athen_n ?_
  refine AT_seq ?_
  refine AT_region ?_
  refine AOps_seg 3 0x21 (mkS 9 [(0, i64 a0), (5, bo (decide (a0 ≥ 1)))]) none [3, 4, 5, 6] (by kernel_rfl) (by kernel_rfl) trivial ?_
  refine AOps_caseS 5 (decide (a0 ≥ 1)) (by kernel_rfl) (mkS 9 [(0, i64 a0), (5, bo true)]) (mkS 9 [(0, i64 a0), (5, bo false)]) (by kernel_rfl) (by kernel_rfl) (fun hc1 => ?_) (fun hc1 => ?_)
  · rw [if_t hc1] at h
    refine AOps_seg 4 0x4 (mkS 9 [(2, bo (decide (a0 ≤ 65536)))]) none [] (by kernel_rfl) (by kernel_rfl) trivial ?_
    refine AOps_end ?_
    refine athen_n ?_
    refine AT_ret ?_
    have e_ := Option.some.inj h
    subst e_
    exact ⟨[bo (decide (a0 ≤ 65536))], bo (decide (a0 ≤ 65536)), S, (.of (by kernel_rfl)), D.le.refl _, hB, rfl, rfl⟩
  · rw [if_f hc1] at h
    refine AOps_seg 4 0x4 (mkS 9 [(2, bo false)]) none [] (by kernel_rfl) (by kernel_rfl) trivial ?_
    refine AOps_end ?_
    refine athen_n ?_
    refine AT_ret ?_
    have e_ := Option.some.inj h
    subst e_
    exact ⟨[bo false], bo false, S, (.of (by kernel_rfl)), D.le.refl _, hB, rfl, rfl⟩
end Go.Proofs.YtjapfalijpfmpaaGreatDoor.Abs
