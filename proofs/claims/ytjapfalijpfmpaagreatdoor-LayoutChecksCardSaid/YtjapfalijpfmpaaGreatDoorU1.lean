/- What functions of the program compute, each with the proof that it does (printed by wip/gen/all.py). -/
import Derived.Test.YtjapfalijpfmpaaGreatDoorU0
import Derived.KernelRfl
namespace Go.Proofs.YtjapfalijpfmpaaGreatDoor.Abs
open Go
set_option maxRecDepth 100000
def values_Fits.f (a0 : Int) (a1 : Int) : Option (Bool) := if (decide (a0 < 0)) = true then (some false) else (if (decide (a0 > 3)) = true then (some false) else (if (a0 == 0) = true then (if (a1 == 0) = true then (some true) else (if (a1 == 1) = true then (some true) else (if (a1 == 2) = true then (some true) else (if (a1 == 3) = true then (some true) else (some false))))) else (if (a0 == 1) = true then (if (a1 == 0) = true then (some true) else (if (a1 == 1) = true then (some true) else (if (a1 == 2) = true then (some true) else (some false)))) else (if (a0 == 3) = true then (if (a1 == 0) = true then (some true) else (if (a1 == 1) = true then (some true) else (if (a1 == 3) = true then (some true) else (some false)))) else (if (a0 == 2) = true then (if (a1 == 0) = true then (some true) else (if (a1 == 1) = true then (some true) else (if (a1 == 4) = true then (some true) else (some false)))) else (if (a1 == 0) = true then (some true) else (if (a1 == 1) = true then (some true) else (some false))))))))
theorem values_Fits.ok (a0 : Int) (a1 : Int) (S : Store) (r : Bool) (h : values_Fits.f a0 a1 = some r) : ACalls Tryz.prog 21 [i64 a0, i64 a1] S (Ret (bo r) S) := by
  unfold values_Fits.f at h
  refine acalls_of Tryz.func21 rfl ?_
  have hB : S.le S := Store.le.refl S
  refine AT_forget 0x3 (mkS 15 [(0, i64 a0), (1, i64 a1)]) (by kernel_rfl) ?_
  refine AT_seq ?_
  refine AT_region ?_
  refine AOps_seg 1 0x3 (mkS 15 [(0, i64 a0), (1, i64 a1)]) none [] (by kernel_rfl) (by kernel_rfl) trivial ?_
  refine AOps_end ?_
  refine athen_n ?_
  refine AT_seq ?_
  refine AT_region ?_
  refine AOps_seg 1 0x102 (mkS 15 [(1, i64 a1), (8, i64 a0)]) none [1, 2, 3, 4, 5, 6, 7, 8, 9] (by kernel_rfl) (by kernel_rfl) trivial ?_
  refine AOps_inline [i64 a0] (tl_get rfl) rfl rfl rfl (by kernel_rfl) Tryz.func23 (by decide) rfl rfl ?_
  refine AT_forget 0x1 (mkS 44 [(0, i64 a0)]) (by kernel_rfl) ?_
  refine AT_seq ?_
  refine AT_region ?_
  refine AOps_box_im (ds := [i64 a0]) (tl_get rfl) rfl rfl (by kernel_rfl) ?_
  refine AOps_forget 0x2 (mkS 44 [(1, .pt [i64 a0])]) (by kernel_rfl) ?_
  refine AOps_seg 1 0x2 (mkS 44 [(1, .pt [i64 a0])]) none [] (by kernel_rfl) (by kernel_rfl) trivial ?_
  refine AOps_end ?_
  refine athen_n ?_
  refine AT_seq ?_
  refine AT_seq ?_
  refine AT_region ?_
  refine AOps_seg 3 0x102 (mkS 44 [(1, .pt [i64 a0]), (8, bo (decide (a0 < 0)))]) none [3, 4, 5] (by kernel_rfl) (by kernel_rfl) trivial ?_
  refine AOps_caseS 8 (decide (a0 < 0)) (by kernel_rfl) (mkS 44 [(1, .pt [i64 a0]), (8, bo true)]) (mkS 44 [(1, .pt [i64 a0]), (8, bo false)]) (by kernel_rfl) (by kernel_rfl) (fun hc1 => ?_) (fun hc1 => ?_)
  · rw [if_t hc1] at h
    refine AOps_seg 3 0x802 (mkS 44 [(1, .pt [i64 a0]), (11, bo true)]) none [] (by kernel_rfl) (by kernel_rfl) trivial ?_
    refine AOps_end ?_
    refine athen_n ?_
    refine AT_cond_t (by kernel_rfl) ?_
    refine AT_seq ?_
    refine AT_region ?_
    refine AOps_seg 1 0x4 (mkS 44 [(2, .lit (.map none))]) none [] (by kernel_rfl) (by kernel_rfl) trivial ?_
    refine AOps_end ?_
    refine athen_n ?_
    refine AT_ret ?_
    refine athen_r ?_
    refine ⟨[.lit (.map none)], .lit (.map none), S, (.of (by kernel_rfl)), D.le.refl _, Store.le.refl _, ?_⟩
    refine AOps_forget 0x202 (mkS 15 [(1, i64 a1), (9, .lit (.map none))]) (by kernel_rfl) ?_
    refine AOps_seg 1 0x600 (mkS 15 [(9, .lit (.map none)), (10, i64 a1)]) none [3, 4, 5, 6, 7, 8, 9] (by kernel_rfl) (by kernel_rfl) trivial ?_
    refine AOps_lookupNil (dsc := .int .i64) (zd := .ag [.lit .nilFunc, .lit .nilFunc]) (tl_get rfl) rfl rfl rfl rfl rfl rfl rfl (by kernel_rfl) ?_
    refine AOps_forget 0x800 (mkS 15 [(11, .tup [.ag [.lit .nilFunc, .lit .nilFunc], bo false])]) (by kernel_rfl) ?_
    refine AOps_seg 3 0x3000 (mkS 15 [(12, .ag [.lit .nilFunc, .lit .nilFunc]), (13, bo false)]) none [7, 8, 9] (by kernel_rfl) (by kernel_rfl) trivial ?_
    refine AOps_newvar (zs := [.lit .nilFunc, .lit .nilFunc]) (ds := [.lit .nilFunc, .lit .nilFunc]) (d := 5) (tl_get rfl) rfl rfl rfl (by kernel_rfl) (by kernel_rfl) (tl_get rfl) (fun _ => rfl) rfl rfl (fun _ => rfl) rfl (by kernel_rfl) (by kernel_rfl) ?_
    refine AOps_forget 0x2020 (mkS 15 [(5, .pt [.lit .nilFunc, .lit .nilFunc]), (13, bo false)]) (by kernel_rfl) ?_
    refine AOps_seg 1 0x40 (mkS 15 [(6, bo false)]) none [] (by kernel_rfl) (by kernel_rfl) trivial ?_
    refine AOps_end ?_
    refine athen_n ?_
    refine AT_seq ?_
    refine AT_region ?_
    refine AOps_seg 2 0x10 (mkS 15 [(4, bo false)]) none [] (by kernel_rfl) (by kernel_rfl) trivial ?_
    refine AOps_end ?_
    refine athen_n ?_
    refine AT_ret ?_
    have e_ := Option.some.inj h
    subst e_
    exact ⟨[bo false], bo false, S, (.of (by kernel_rfl)), D.le.refl _, hB, rfl, rfl⟩
  · rw [if_f hc1] at h
    refine AOps_seg 3 0x802 (mkS 44 [(1, .pt [i64 a0]), (11, bo (decide (a0 > 3)))]) none [] (by kernel_rfl) (by kernel_rfl) trivial ?_
    refine AOps_end ?_
    refine athen_n ?_
    refine AT_condS (decide (a0 > 3)) (by kernel_rfl) (fun hc2 => ?_) (fun hc2 => ?_)
    · rw [if_t hc2] at h
      refine AT_seq ?_
      refine AT_region ?_
      refine AOps_seg 1 0x4 (mkS 44 [(2, .lit (.map none))]) none [] (by kernel_rfl) (by kernel_rfl) trivial ?_
      refine AOps_end ?_
      refine athen_n ?_
      refine AT_ret ?_
      refine athen_r ?_
      refine ⟨[.lit (.map none)], .lit (.map none), S, (.of (by kernel_rfl)), D.le.refl _, Store.le.refl _, ?_⟩
      refine AOps_forget 0x202 (mkS 15 [(1, i64 a1), (9, .lit (.map none))]) (by kernel_rfl) ?_
      refine AOps_seg 1 0x600 (mkS 15 [(9, .lit (.map none)), (10, i64 a1)]) none [3, 4, 5, 6, 7, 8, 9] (by kernel_rfl) (by kernel_rfl) trivial ?_
      refine AOps_lookupNil (dsc := .int .i64) (zd := .ag [.lit .nilFunc, .lit .nilFunc]) (tl_get rfl) rfl rfl rfl rfl rfl rfl rfl (by kernel_rfl) ?_
      refine AOps_forget 0x800 (mkS 15 [(11, .tup [.ag [.lit .nilFunc, .lit .nilFunc], bo false])]) (by kernel_rfl) ?_
      refine AOps_seg 3 0x3000 (mkS 15 [(12, .ag [.lit .nilFunc, .lit .nilFunc]), (13, bo false)]) none [7, 8, 9] (by kernel_rfl) (by kernel_rfl) trivial ?_
      refine AOps_newvar (zs := [.lit .nilFunc, .lit .nilFunc]) (ds := [.lit .nilFunc, .lit .nilFunc]) (d := 5) (tl_get rfl) rfl rfl rfl (by kernel_rfl) (by kernel_rfl) (tl_get rfl) (fun _ => rfl) rfl rfl (fun _ => rfl) rfl (by kernel_rfl) (by kernel_rfl) ?_
      refine AOps_forget 0x2020 (mkS 15 [(5, .pt [.lit .nilFunc, .lit .nilFunc]), (13, bo false)]) (by kernel_rfl) ?_
      refine AOps_seg 1 0x40 (mkS 15 [(6, bo false)]) none [] (by kernel_rfl) (by kernel_rfl) trivial ?_
      refine AOps_end ?_
      refine athen_n ?_
      refine AT_seq ?_
      refine AT_region ?_
      refine AOps_seg 2 0x10 (mkS 15 [(4, bo false)]) none [] (by kernel_rfl) (by kernel_rfl) trivial ?_
      refine AOps_end ?_
      refine athen_n ?_
      refine AT_ret ?_
      have e_ := Option.some.inj h
      subst e_
      exact ⟨[bo false], bo false, S, (.of (by kernel_rfl)), D.le.refl _, hB, rfl, rfl⟩
    · rw [if_f hc2] at h
      refine AT_skip ?_
      refine athen_n ?_
      refine AT_seq ?_
      refine AT_region ?_
      refine AOps_seg 3 0x4002 (mkS 44 [(1, .pt [i64 a0]), (14, .ag [.fn (.func 24) [] [.pt [i64 a0]], .fn (.func 26) [] [.pt [i64 a0]]])]) none [3, 4] (by kernel_rfl) (by kernel_rfl) trivial ?_
      refine AOps_newvar (zs := [.lit .nilFunc, .lit .nilFunc]) (ds := [.fn (.func 24) [] [.pt [i64 a0]], .fn (.func 26) [] [.pt [i64 a0]]]) (d := 3) (tl_get rfl) rfl rfl rfl (by kernel_rfl) (by kernel_rfl) (tl_get rfl) (fun _ => rfl) rfl rfl (fun _ => rfl) rfl (by kernel_rfl) (by kernel_rfl) ?_
      refine AOps_forget 0xa (mkS 44 [(1, .pt [i64 a0]), (3, .pt [.fn (.func 24) [] [.pt [i64 a0]], .fn (.func 26) [] [.pt [i64 a0]]])]) (by kernel_rfl) ?_
      refine AOps_end ?_
      refine athen_n ?_
      refine AT_seq ?_
      refine AT_region ?_
      refine AOps_seg 3 0x2000a (mkS 44 [(1, .pt [i64 a0]), (3, .pt [.fn (.func 24) [] [.pt [i64 a0]], .fn (.func 26) [] [.pt [i64 a0]]]), (17, .ag [.fn (.func 28) [] [.pt [i64 a0]], .fn (.func 30) [] [.pt [i64 a0]]])]) none [3, 4] (by kernel_rfl) (by kernel_rfl) trivial ?_
      refine AOps_newvar (zs := [.lit .nilFunc, .lit .nilFunc]) (ds := [.fn (.func 28) [] [.pt [i64 a0]], .fn (.func 30) [] [.pt [i64 a0]]]) (d := 4) (tl_get rfl) rfl rfl rfl (by kernel_rfl) (by kernel_rfl) (tl_get rfl) (fun _ => rfl) rfl rfl (fun _ => rfl) rfl (by kernel_rfl) (by kernel_rfl) ?_
      refine AOps_forget 0x1a (mkS 44 [(1, .pt [i64 a0]), (3, .pt [.fn (.func 24) [] [.pt [i64 a0]], .fn (.func 26) [] [.pt [i64 a0]]]), (4, .pt [.fn (.func 28) [] [.pt [i64 a0]], .fn (.func 30) [] [.pt [i64 a0]]])]) (by kernel_rfl) ?_
      refine AOps_end ?_
      refine athen_n ?_
      refine AT_seq ?_
      refine AT_region ?_
      refine AOps_makeMapU (tl_get rfl) rfl rfl (fun S3 m4 hf6 u5 => ?_)
      have ff7 := fresh_leO hB hf6
      have at8 : Store.ob S3 m4 = some (mapO []) := u5.at_.trans (by kernel_rfl)
      have hB9 := u5.le hB ff7
      refine AOps_forget 0x4001a (mkS 44 [(1, .pt [i64 a0]), (3, .pt [.fn (.func 24) [] [.pt [i64 a0]], .fn (.func 26) [] [.pt [i64 a0]]]), (4, .pt [.fn (.func 28) [] [.pt [i64 a0]], .fn (.func 30) [] [.pt [i64 a0]]]), (18, .mp m4)]) (by kernel_rfl) ?_
      refine AOps_seg 1 0xc0012 (mkS 44 [(1, .pt [i64 a0]), (4, .pt [.fn (.func 28) [] [.pt [i64 a0]], .fn (.func 30) [] [.pt [i64 a0]]]), (18, .mp m4), (19, .ag [.fn (.func 24) [] [.pt [i64 a0]], .fn (.func 26) [] [.pt [i64 a0]]])]) none [2, 3, 4, 5, 6] (by kernel_rfl) (by kernel_rfl) trivial ?_
      refine AOps_insertU (dsc := .int .i64) (es := []) (kv := .int .i64 0) (tl_get rfl) rfl (by first | exact .inl rfl | exact .inr rfl) rfl rfl rfl at8 rfl rfl (by intro x hx; cases hx) (.nil) (fun S10 u11 => ?_)
      have at12 : Store.ob S10 m4 = some (mapO [(.int .i64 0, .ag [.fn (.func 24) [] [.pt [i64 a0]], .fn (.func 26) [] [.pt [i64 a0]]])]) := u11.at_.trans (by kernel_rfl)
      have hB13 := u11.le hB9 ff7
      refine AOps_forget 0x40012 (mkS 44 [(1, .pt [i64 a0]), (4, .pt [.fn (.func 28) [] [.pt [i64 a0]], .fn (.func 30) [] [.pt [i64 a0]]]), (18, .mp m4)]) (by kernel_rfl) ?_
      refine AOps_seg 1 0x140002 (mkS 44 [(1, .pt [i64 a0]), (18, .mp m4), (20, .ag [.fn (.func 28) [] [.pt [i64 a0]], .fn (.func 30) [] [.pt [i64 a0]]])]) none [4, 5, 6] (by kernel_rfl) (by kernel_rfl) trivial ?_
      refine AOps_insertU (dsc := .int .i64) (es := [(.int .i64 0, .ag [.fn (.func 24) [] [.pt [i64 a0]], .fn (.func 26) [] [.pt [i64 a0]]])]) (kv := .int .i64 1) (tl_get rfl) rfl (by first | exact .inl rfl | exact .inr rfl) rfl rfl rfl at12 rfl rfl (by intro x hx; simp only [List.mem_cons, List.not_mem_nil, or_false] at hx; rcases hx with rfl <;> exact rfl) (.miss (int_ne (by decide)) (.nil)) (fun S14 u15 => ?_)
      have at16 : Store.ob S14 m4 = some (mapO [(.int .i64 0, .ag [.fn (.func 24) [] [.pt [i64 a0]], .fn (.func 26) [] [.pt [i64 a0]]]), (.int .i64 1, .ag [.fn (.func 28) [] [.pt [i64 a0]], .fn (.func 30) [] [.pt [i64 a0]]])]) := u15.at_.trans (by kernel_rfl)
      have hB17 := u15.le hB13 ff7
      refine AOps_forget 0x40002 (mkS 44 [(1, .pt [i64 a0]), (18, .mp m4)]) (by kernel_rfl) ?_
      refine AOps_seg 2 0x22 (mkS 44 [(1, .pt [i64 a0]), (5, .mp m4)]) none [] (by kernel_rfl) (by kernel_rfl) trivial ?_
      refine AOps_end ?_
      refine athen_n ?_
      refine AT_seq ?_
      refine AT_seq ?_
      refine AT_region ?_
      refine AOps_seg 3 0x1000022 (mkS 44 [(1, .pt [i64 a0]), (5, .mp m4), (24, bo (a0 == 0))]) none [3, 4, 5] (by kernel_rfl) (by kernel_rfl) trivial ?_
      refine AOps_caseS 24 (a0 == 0) (by kernel_rfl) (mkS 44 [(1, .pt [i64 a0]), (5, .mp m4), (24, bo true)]) (mkS 44 [(1, .pt [i64 a0]), (5, .mp m4), (24, bo false)]) (by kernel_rfl) (by kernel_rfl) (fun hc18 => ?_) (fun hc18 => ?_)
      · rw [if_t hc18] at h
        refine AOps_seg 3 0x8000022 (mkS 44 [(1, .pt [i64 a0]), (5, .mp m4), (27, bo true)]) none [] (by kernel_rfl) (by kernel_rfl) trivial ?_
        refine AOps_end ?_
        refine athen_n ?_
        refine AT_cond_t (by kernel_rfl) ?_
        refine AT_region ?_
        refine AOps_seg 1 0x10000022 (mkS 44 [(1, .pt [i64 a0]), (5, .mp m4), (28, .mp m4)]) none [1, 2] (by kernel_rfl) (by kernel_rfl) trivial ?_
        refine AOps_inline [.fn (.func 33) [] [], .fn (.func 35) [] [], .fn (.func 36) [] [], .fn (.func 37) [] []] (tl_get rfl) rfl rfl rfl (by kernel_rfl) Tryz.func32 (by decide) rfl rfl ?_
        refine AT_forget 0xf (mkS 12 [(0, .fn (.func 33) [] []), (1, .fn (.func 35) [] []), (2, .fn (.func 36) [] []), (3, .fn (.func 37) [] [])]) (by kernel_rfl) ?_
        refine AT_seq ?_
        refine AT_region ?_
        refine AOps_box_im (ds := [.fn (.func 33) [] []]) (tl_get rfl) rfl rfl (by kernel_rfl) ?_
        refine AOps_forget 0x1e (mkS 12 [(1, .fn (.func 35) [] []), (2, .fn (.func 36) [] []), (3, .fn (.func 37) [] []), (4, .pt [.fn (.func 33) [] []])]) (by kernel_rfl) ?_
        refine AOps_box_im (ds := [.fn (.func 35) [] []]) (tl_get rfl) rfl rfl (by kernel_rfl) ?_
        refine AOps_forget 0x3c (mkS 12 [(2, .fn (.func 36) [] []), (3, .fn (.func 37) [] []), (4, .pt [.fn (.func 33) [] []]), (5, .pt [.fn (.func 35) [] []])]) (by kernel_rfl) ?_
        refine AOps_box_im (ds := [.fn (.func 36) [] []]) (tl_get rfl) rfl rfl (by kernel_rfl) ?_
        refine AOps_forget 0x78 (mkS 12 [(3, .fn (.func 37) [] []), (4, .pt [.fn (.func 33) [] []]), (5, .pt [.fn (.func 35) [] []]), (6, .pt [.fn (.func 36) [] []])]) (by kernel_rfl) ?_
        refine AOps_box_im (ds := [.fn (.func 37) [] []]) (tl_get rfl) rfl rfl (by kernel_rfl) ?_
        refine AOps_forget 0xf0 (mkS 12 [(4, .pt [.fn (.func 33) [] []]), (5, .pt [.fn (.func 35) [] []]), (6, .pt [.fn (.func 36) [] []]), (7, .pt [.fn (.func 37) [] []])]) (by kernel_rfl) ?_
        refine AOps_allocU (ds := [.lit .nilFunc, .lit .nilFunc]) (tl_get rfl) rfl rfl (by kernel_rfl) (fun S19 m20 hf22 u21 => ?_)
        have ff23 := fresh_leO hB17 hf22
        have ne24 := ne_of_freshO at16 hf22
        have at25 := u21.ob at16 ne24
        have at26 : Store.ob S19 m20 = some (.cells 49 [.lit .nilFunc, .lit .nilFunc]) := u21.at_.trans (by kernel_rfl)
        have hB27 := u21.le hB17 ff23
        refine AOps_forget 0x1f0 (mkS 12 [(4, .pt [.fn (.func 33) [] []]), (5, .pt [.fn (.func 35) [] []]), (6, .pt [.fn (.func 36) [] []]), (7, .pt [.fn (.func 37) [] []]), (8, .ob m20 0)]) (by kernel_rfl) ?_
        refine AOps_end ?_
        refine athen_n ?_
        refine AT_seq ?_
        refine AT_region ?_
        refine AOps_seg 3 0x900 (mkS 12 [(8, .ob m20 0), (11, .ag [.fn (.func 66) [] [.pt [.fn (.func 35) [] []], .pt [.fn (.func 33) [] []]], .fn (.func 68) [] [.pt [.fn (.func 36) [] []], .pt [.fn (.func 37) [] []]]])]) none [3] (by kernel_rfl) (by kernel_rfl) trivial ?_
        refine AOps_putU (T := 49) (off := 0) (cs := [.lit .nilFunc, .lit .nilFunc]) (ds := [.fn (.func 66) [] [.pt [.fn (.func 35) [] []], .pt [.fn (.func 33) [] []]], .fn (.func 68) [] [.pt [.fn (.func 36) [] []], .pt [.fn (.func 37) [] []]]]) (cs' := [.fn (.func 66) [] [.pt [.fn (.func 35) [] []], .pt [.fn (.func 33) [] []]], .fn (.func 68) [] [.pt [.fn (.func 36) [] []], .pt [.fn (.func 37) [] []]]]) (tl_get rfl) rfl rfl rfl at26 rfl (by kernel_rfl) (by decide) rfl (fun S28 u29 => ?_)
        have at30 := u29.ob at25 ne24
        have at31 : Store.ob S28 m20 = some (.cells 49 [.fn (.func 66) [] [.pt [.fn (.func 35) [] []], .pt [.fn (.func 33) [] []]], .fn (.func 68) [] [.pt [.fn (.func 36) [] []], .pt [.fn (.func 37) [] []]]]) := u29.at_.trans (by kernel_rfl)
        have hB32 := u29.le hB27 ff23
        refine AOps_forget 0x100 (mkS 12 [(8, .ob m20 0)]) (by kernel_rfl) ?_
        refine AOps_end ?_
        refine athen_n ?_
        refine AT_ret ?_
        refine ⟨[.ag [.fn (.func 66) [] [.pt [.fn (.func 35) [] []], .pt [.fn (.func 33) [] []]], .fn (.func 68) [] [.pt [.fn (.func 36) [] []], .pt [.fn (.func 37) [] []]]]], .ag [.fn (.func 66) [] [.pt [.fn (.func 35) [] []], .pt [.fn (.func 33) [] []]], .fn (.func 68) [] [.pt [.fn (.func 36) [] []], .pt [.fn (.func 37) [] []]]], S28, (.ob (o := 0) (by kernel_rfl) at31 (.inl ⟨by kernel_rfl, 2, by kernel_rfl, by decide, by kernel_rfl⟩) (.nil)), D.le.refl _, Store.le.refl _, ?_⟩
        refine AOps_forget 0x30000022 (mkS 44 [(1, .pt [i64 a0]), (5, .mp m4), (28, .mp m4), (29, .ag [.fn (.func 66) [] [.pt [.fn (.func 35) [] []], .pt [.fn (.func 33) [] []]], .fn (.func 68) [] [.pt [.fn (.func 36) [] []], .pt [.fn (.func 37) [] []]]])]) (by kernel_rfl) ?_
        refine AOps_insertU (dsc := .int .i64) (es := [(.int .i64 0, .ag [.fn (.func 24) [] [.pt [i64 a0]], .fn (.func 26) [] [.pt [i64 a0]]]), (.int .i64 1, .ag [.fn (.func 28) [] [.pt [i64 a0]], .fn (.func 30) [] [.pt [i64 a0]]])]) (kv := .int .i64 2) (tl_get rfl) rfl (by first | exact .inl rfl | exact .inr rfl) rfl rfl rfl at30 rfl rfl (by intro x hx; simp only [List.mem_cons, List.not_mem_nil, or_false] at hx; rcases hx with rfl | rfl <;> exact rfl) (.miss (int_ne (by decide)) (.miss (int_ne (by decide)) (.nil))) (fun S33 u34 => ?_)
        have at35 := u34.ob at31 ne24.symm
        have at36 : Store.ob S33 m4 = some (mapO [(.int .i64 0, .ag [.fn (.func 24) [] [.pt [i64 a0]], .fn (.func 26) [] [.pt [i64 a0]]]), (.int .i64 1, .ag [.fn (.func 28) [] [.pt [i64 a0]], .fn (.func 30) [] [.pt [i64 a0]]]), (.int .i64 2, .ag [.fn (.func 66) [] [.pt [.fn (.func 35) [] []], .pt [.fn (.func 33) [] []]], .fn (.func 68) [] [.pt [.fn (.func 36) [] []], .pt [.fn (.func 37) [] []]]])]) := u34.at_.trans (by kernel_rfl)
        have hB37 := u34.le hB32 ff7
        refine AOps_forget 0x22 (mkS 44 [(1, .pt [i64 a0]), (5, .mp m4)]) (by kernel_rfl) ?_
        refine AOps_end ?_
        refine athen_n ?_
        refine AT_seq ?_
        refine AT_seq ?_
        refine AT_region ?_
        refine AOps_seg 1 0x40000020 (mkS 44 [(5, .mp m4), (30, i64 a0)]) none [] (by kernel_rfl) (by kernel_rfl) trivial ?_
        refine AOps_end ?_
        refine athen_n ?_
        refine AT_block ?_
        refine AT_seq ?_
        refine AT_region ?_
        refine AOps_seg 2 0xc0000020 (mkS 44 [(5, .mp m4), (30, i64 a0), (31, bo (a0 == 0))]) none [] (by kernel_rfl) (by kernel_rfl) trivial ?_
        refine AOps_end ?_
        refine athen_n ?_
        refine AT_condK (by kernel_rfl) hc18 ?_
        refine AT_region ?_
        refine AOps_seg 1 0x200000020 (mkS 44 [(5, .mp m4), (33, .mp m4)]) none [1, 2] (by kernel_rfl) (by kernel_rfl) trivial ?_
        refine AOps_inline [.fn (.func 40) [] [], .fn (.func 41) [] [], .fn (.func 42) [] [], .fn (.func 43) [] []] (tl_get rfl) rfl rfl rfl (by kernel_rfl) Tryz.func39 (by decide) rfl rfl ?_
        refine AT_forget 0xf (mkS 12 [(0, .fn (.func 40) [] []), (1, .fn (.func 41) [] []), (2, .fn (.func 42) [] []), (3, .fn (.func 43) [] [])]) (by kernel_rfl) ?_
        refine AT_seq ?_
        refine AT_region ?_
        refine AOps_box_im (ds := [.fn (.func 40) [] []]) (tl_get rfl) rfl rfl (by kernel_rfl) ?_
        refine AOps_forget 0x1e (mkS 12 [(1, .fn (.func 41) [] []), (2, .fn (.func 42) [] []), (3, .fn (.func 43) [] []), (4, .pt [.fn (.func 40) [] []])]) (by kernel_rfl) ?_
        refine AOps_box_im (ds := [.fn (.func 41) [] []]) (tl_get rfl) rfl rfl (by kernel_rfl) ?_
        refine AOps_forget 0x3c (mkS 12 [(2, .fn (.func 42) [] []), (3, .fn (.func 43) [] []), (4, .pt [.fn (.func 40) [] []]), (5, .pt [.fn (.func 41) [] []])]) (by kernel_rfl) ?_
        refine AOps_box_im (ds := [.fn (.func 42) [] []]) (tl_get rfl) rfl rfl (by kernel_rfl) ?_
        refine AOps_forget 0x78 (mkS 12 [(3, .fn (.func 43) [] []), (4, .pt [.fn (.func 40) [] []]), (5, .pt [.fn (.func 41) [] []]), (6, .pt [.fn (.func 42) [] []])]) (by kernel_rfl) ?_
        refine AOps_box_im (ds := [.fn (.func 43) [] []]) (tl_get rfl) rfl rfl (by kernel_rfl) ?_
        refine AOps_forget 0xf0 (mkS 12 [(4, .pt [.fn (.func 40) [] []]), (5, .pt [.fn (.func 41) [] []]), (6, .pt [.fn (.func 42) [] []]), (7, .pt [.fn (.func 43) [] []])]) (by kernel_rfl) ?_
        refine AOps_allocU (ds := [.lit .nilFunc, .lit .nilFunc]) (tl_get rfl) rfl rfl (by kernel_rfl) (fun S38 m39 hf41 u40 => ?_)
        have ff42 := fresh_leO hB37 hf41
        have ne43 := ne_of_freshO at36 hf41
        have at44 := u40.ob at36 ne43
        have ne45 := ne_of_freshO at35 hf41
        have at46 := u40.ob at35 ne45
        have at47 : Store.ob S38 m39 = some (.cells 49 [.lit .nilFunc, .lit .nilFunc]) := u40.at_.trans (by kernel_rfl)
        have hB48 := u40.le hB37 ff42
        refine AOps_forget 0x1f0 (mkS 12 [(4, .pt [.fn (.func 40) [] []]), (5, .pt [.fn (.func 41) [] []]), (6, .pt [.fn (.func 42) [] []]), (7, .pt [.fn (.func 43) [] []]), (8, .ob m39 0)]) (by kernel_rfl) ?_
        refine AOps_end ?_
        refine athen_n ?_
        refine AT_seq ?_
        refine AT_region ?_
        refine AOps_seg 3 0x900 (mkS 12 [(8, .ob m39 0), (11, .ag [.fn (.func 77) [] [.pt [.fn (.func 41) [] []], .pt [.fn (.func 40) [] []]], .fn (.func 79) [] [.pt [.fn (.func 42) [] []], .pt [.fn (.func 43) [] []]]])]) none [3] (by kernel_rfl) (by kernel_rfl) trivial ?_
        refine AOps_putU (T := 49) (off := 0) (cs := [.lit .nilFunc, .lit .nilFunc]) (ds := [.fn (.func 77) [] [.pt [.fn (.func 41) [] []], .pt [.fn (.func 40) [] []]], .fn (.func 79) [] [.pt [.fn (.func 42) [] []], .pt [.fn (.func 43) [] []]]]) (cs' := [.fn (.func 77) [] [.pt [.fn (.func 41) [] []], .pt [.fn (.func 40) [] []]], .fn (.func 79) [] [.pt [.fn (.func 42) [] []], .pt [.fn (.func 43) [] []]]]) (tl_get rfl) rfl rfl rfl at47 rfl (by kernel_rfl) (by decide) rfl (fun S49 u50 => ?_)
        have at51 := u50.ob at44 ne43
        have at52 := u50.ob at46 ne45
        have at53 : Store.ob S49 m39 = some (.cells 49 [.fn (.func 77) [] [.pt [.fn (.func 41) [] []], .pt [.fn (.func 40) [] []]], .fn (.func 79) [] [.pt [.fn (.func 42) [] []], .pt [.fn (.func 43) [] []]]]) := u50.at_.trans (by kernel_rfl)
        have hB54 := u50.le hB48 ff42
        refine AOps_forget 0x100 (mkS 12 [(8, .ob m39 0)]) (by kernel_rfl) ?_
        refine AOps_end ?_
        refine athen_n ?_
        refine AT_ret ?_
        refine ⟨[.ag [.fn (.func 77) [] [.pt [.fn (.func 41) [] []], .pt [.fn (.func 40) [] []]], .fn (.func 79) [] [.pt [.fn (.func 42) [] []], .pt [.fn (.func 43) [] []]]]], .ag [.fn (.func 77) [] [.pt [.fn (.func 41) [] []], .pt [.fn (.func 40) [] []]], .fn (.func 79) [] [.pt [.fn (.func 42) [] []], .pt [.fn (.func 43) [] []]]], S49, (.ob (o := 0) (by kernel_rfl) at53 (.inl ⟨by kernel_rfl, 2, by kernel_rfl, by decide, by kernel_rfl⟩) (.nil)), D.le.refl _, Store.le.refl _, ?_⟩
        refine AOps_forget 0x600000020 (mkS 44 [(5, .mp m4), (33, .mp m4), (34, .ag [.fn (.func 77) [] [.pt [.fn (.func 41) [] []], .pt [.fn (.func 40) [] []]], .fn (.func 79) [] [.pt [.fn (.func 42) [] []], .pt [.fn (.func 43) [] []]]])]) (by kernel_rfl) ?_
        refine AOps_insertU (dsc := .int .i64) (es := [(.int .i64 0, .ag [.fn (.func 24) [] [.pt [i64 a0]], .fn (.func 26) [] [.pt [i64 a0]]]), (.int .i64 1, .ag [.fn (.func 28) [] [.pt [i64 a0]], .fn (.func 30) [] [.pt [i64 a0]]]), (.int .i64 2, .ag [.fn (.func 66) [] [.pt [.fn (.func 35) [] []], .pt [.fn (.func 33) [] []]], .fn (.func 68) [] [.pt [.fn (.func 36) [] []], .pt [.fn (.func 37) [] []]]])]) (kv := .int .i64 3) (tl_get rfl) rfl (by first | exact .inl rfl | exact .inr rfl) rfl rfl rfl at51 rfl rfl (by intro x hx; simp only [List.mem_cons, List.not_mem_nil, or_false] at hx; rcases hx with rfl | rfl | rfl <;> exact rfl) (.miss (int_ne (by decide)) (.miss (int_ne (by decide)) (.miss (int_ne (by decide)) (.nil)))) (fun S55 u56 => ?_)
        have at57 := u56.ob at52 ne24.symm
        have at58 := u56.ob at53 ne43.symm
        have at59 : Store.ob S55 m4 = some (mapO [(.int .i64 0, .ag [.fn (.func 24) [] [.pt [i64 a0]], .fn (.func 26) [] [.pt [i64 a0]]]), (.int .i64 1, .ag [.fn (.func 28) [] [.pt [i64 a0]], .fn (.func 30) [] [.pt [i64 a0]]]), (.int .i64 2, .ag [.fn (.func 66) [] [.pt [.fn (.func 35) [] []], .pt [.fn (.func 33) [] []]], .fn (.func 68) [] [.pt [.fn (.func 36) [] []], .pt [.fn (.func 37) [] []]]]), (.int .i64 3, .ag [.fn (.func 77) [] [.pt [.fn (.func 41) [] []], .pt [.fn (.func 40) [] []]], .fn (.func 79) [] [.pt [.fn (.func 42) [] []], .pt [.fn (.func 43) [] []]]])]) := u56.at_.trans (by kernel_rfl)
        have hB60 := u56.le hB54 ff7
        refine AOps_forget 0x20 (mkS 44 [(5, .mp m4)]) (by kernel_rfl) ?_
        refine AOps_end ?_
        refine ablock_n ?_
        refine athen_n ?_
        refine AT_seq ?_
        refine AT_region ?_
        refine AOps_seg 2 0x4 (mkS 44 [(2, .mp m4)]) none [] (by kernel_rfl) (by kernel_rfl) trivial ?_
        refine AOps_end ?_
        refine athen_n ?_
        refine AT_ret ?_
        refine ⟨[.mp m4], .mp m4, S55, (.of (by kernel_rfl)), D.le.refl _, Store.le.refl _, ?_⟩
        refine AOps_forget 0x202 (mkS 15 [(1, i64 a1), (9, .mp m4)]) (by kernel_rfl) ?_
        refine AOps_seg 1 0x600 (mkS 15 [(9, .mp m4), (10, i64 a1)]) none [3, 4, 5, 6, 7, 8, 9] (by kernel_rfl) (by kernel_rfl) trivial ?_
        cases hc61 : (a1 == 0)
        rotate_left
        · rw [if_t hc61] at h
          refine AOps_lookup (dsc := .int .i64) (es := [(.int .i64 0, .ag [.fn (.func 24) [] [.pt [i64 a0]], .fn (.func 26) [] [.pt [i64 a0]]]), (.int .i64 1, .ag [.fn (.func 28) [] [.pt [i64 a0]], .fn (.func 30) [] [.pt [i64 a0]]]), (.int .i64 2, .ag [.fn (.func 66) [] [.pt [.fn (.func 35) [] []], .pt [.fn (.func 33) [] []]], .fn (.func 68) [] [.pt [.fn (.func 36) [] []], .pt [.fn (.func 37) [] []]]]), (.int .i64 3, .ag [.fn (.func 77) [] [.pt [.fn (.func 41) [] []], .pt [.fn (.func 40) [] []]], .fn (.func 79) [] [.pt [.fn (.func 42) [] []], .pt [.fn (.func 43) [] []]]])]) (res := some (.ag [.fn (.func 24) [] [.pt [i64 a0]], .fn (.func 26) [] [.pt [i64 a0]]])) (zd := .ag [.lit .nilFunc, .lit .nilFunc]) (tl_get rfl) rfl rfl rfl rfl rfl at59 rfl rfl (by intro x hx; simp only [List.mem_cons, List.not_mem_nil, or_false] at hx; rcases hx with rfl | rfl | rfl | rfl <;> exact rfl) (by rw [eq_of_beq hc61]; exact .hit _ _) (by kernel_rfl) ?_
          refine AOps_forget 0x800 (mkS 15 [(11, .tup [.ag [.fn (.func 24) [] [.pt [i64 a0]], .fn (.func 26) [] [.pt [i64 a0]]], bo true])]) (by kernel_rfl) ?_
          refine AOps_seg 3 0x3000 (mkS 15 [(12, .ag [.fn (.func 24) [] [.pt [i64 a0]], .fn (.func 26) [] [.pt [i64 a0]]]), (13, bo true)]) none [7, 8, 9] (by kernel_rfl) (by kernel_rfl) trivial ?_
          refine AOps_newvar (zs := [.lit .nilFunc, .lit .nilFunc]) (ds := [.fn (.func 24) [] [.pt [i64 a0]], .fn (.func 26) [] [.pt [i64 a0]]]) (d := 5) (tl_get rfl) rfl rfl rfl (by kernel_rfl) (by kernel_rfl) (tl_get rfl) (fun _ => rfl) rfl rfl (fun _ => rfl) rfl (by kernel_rfl) (by kernel_rfl) ?_
          refine AOps_forget 0x2020 (mkS 15 [(5, .pt [.fn (.func 24) [] [.pt [i64 a0]], .fn (.func 26) [] [.pt [i64 a0]]]), (13, bo true)]) (by kernel_rfl) ?_
          refine AOps_seg 1 0x40 (mkS 15 [(6, bo true)]) none [] (by kernel_rfl) (by kernel_rfl) trivial ?_
          refine AOps_end ?_
          refine athen_n ?_
          refine AT_seq ?_
          refine AT_region ?_
          refine AOps_seg 2 0x10 (mkS 15 [(4, bo true)]) none [] (by kernel_rfl) (by kernel_rfl) trivial ?_
          refine AOps_end ?_
          refine athen_n ?_
          refine AT_ret ?_
          have e_ := Option.some.inj h
          subst e_
          exact ⟨[bo true], bo true, S, (.of (by kernel_rfl)), D.le.refl _, hB60, rfl, rfl⟩
        rw [if_f hc61] at h
        cases hc62 : (a1 == 1)
        rotate_left
        · rw [if_t hc62] at h
          refine AOps_lookup (dsc := .int .i64) (es := [(.int .i64 0, .ag [.fn (.func 24) [] [.pt [i64 a0]], .fn (.func 26) [] [.pt [i64 a0]]]), (.int .i64 1, .ag [.fn (.func 28) [] [.pt [i64 a0]], .fn (.func 30) [] [.pt [i64 a0]]]), (.int .i64 2, .ag [.fn (.func 66) [] [.pt [.fn (.func 35) [] []], .pt [.fn (.func 33) [] []]], .fn (.func 68) [] [.pt [.fn (.func 36) [] []], .pt [.fn (.func 37) [] []]]]), (.int .i64 3, .ag [.fn (.func 77) [] [.pt [.fn (.func 41) [] []], .pt [.fn (.func 40) [] []]], .fn (.func 79) [] [.pt [.fn (.func 42) [] []], .pt [.fn (.func 43) [] []]]])]) (res := some (.ag [.fn (.func 28) [] [.pt [i64 a0]], .fn (.func 30) [] [.pt [i64 a0]]])) (zd := .ag [.lit .nilFunc, .lit .nilFunc]) (tl_get rfl) rfl rfl rfl rfl rfl at59 rfl rfl (by intro x hx; simp only [List.mem_cons, List.not_mem_nil, or_false] at hx; rcases hx with rfl | rfl | rfl | rfl <;> exact rfl) (by rw [eq_of_beq hc62]; exact .miss (int_ne (by decide)) (.hit _ _)) (by kernel_rfl) ?_
          refine AOps_forget 0x800 (mkS 15 [(11, .tup [.ag [.fn (.func 28) [] [.pt [i64 a0]], .fn (.func 30) [] [.pt [i64 a0]]], bo true])]) (by kernel_rfl) ?_
          refine AOps_seg 3 0x3000 (mkS 15 [(12, .ag [.fn (.func 28) [] [.pt [i64 a0]], .fn (.func 30) [] [.pt [i64 a0]]]), (13, bo true)]) none [7, 8, 9] (by kernel_rfl) (by kernel_rfl) trivial ?_
          refine AOps_newvar (zs := [.lit .nilFunc, .lit .nilFunc]) (ds := [.fn (.func 28) [] [.pt [i64 a0]], .fn (.func 30) [] [.pt [i64 a0]]]) (d := 5) (tl_get rfl) rfl rfl rfl (by kernel_rfl) (by kernel_rfl) (tl_get rfl) (fun _ => rfl) rfl rfl (fun _ => rfl) rfl (by kernel_rfl) (by kernel_rfl) ?_
          refine AOps_forget 0x2020 (mkS 15 [(5, .pt [.fn (.func 28) [] [.pt [i64 a0]], .fn (.func 30) [] [.pt [i64 a0]]]), (13, bo true)]) (by kernel_rfl) ?_
          refine AOps_seg 1 0x40 (mkS 15 [(6, bo true)]) none [] (by kernel_rfl) (by kernel_rfl) trivial ?_
          refine AOps_end ?_
          refine athen_n ?_
          refine AT_seq ?_
          refine AT_region ?_
          refine AOps_seg 2 0x10 (mkS 15 [(4, bo true)]) none [] (by kernel_rfl) (by kernel_rfl) trivial ?_
          refine AOps_end ?_
          refine athen_n ?_
          refine AT_ret ?_
          have e_ := Option.some.inj h
          subst e_
          exact ⟨[bo true], bo true, S, (.of (by kernel_rfl)), D.le.refl _, hB60, rfl, rfl⟩
        rw [if_f hc62] at h
        cases hc63 : (a1 == 2)
        rotate_left
        · rw [if_t hc63] at h
          refine AOps_lookup (dsc := .int .i64) (es := [(.int .i64 0, .ag [.fn (.func 24) [] [.pt [i64 a0]], .fn (.func 26) [] [.pt [i64 a0]]]), (.int .i64 1, .ag [.fn (.func 28) [] [.pt [i64 a0]], .fn (.func 30) [] [.pt [i64 a0]]]), (.int .i64 2, .ag [.fn (.func 66) [] [.pt [.fn (.func 35) [] []], .pt [.fn (.func 33) [] []]], .fn (.func 68) [] [.pt [.fn (.func 36) [] []], .pt [.fn (.func 37) [] []]]]), (.int .i64 3, .ag [.fn (.func 77) [] [.pt [.fn (.func 41) [] []], .pt [.fn (.func 40) [] []]], .fn (.func 79) [] [.pt [.fn (.func 42) [] []], .pt [.fn (.func 43) [] []]]])]) (res := some (.ag [.fn (.func 66) [] [.pt [.fn (.func 35) [] []], .pt [.fn (.func 33) [] []]], .fn (.func 68) [] [.pt [.fn (.func 36) [] []], .pt [.fn (.func 37) [] []]]])) (zd := .ag [.lit .nilFunc, .lit .nilFunc]) (tl_get rfl) rfl rfl rfl rfl rfl at59 rfl rfl (by intro x hx; simp only [List.mem_cons, List.not_mem_nil, or_false] at hx; rcases hx with rfl | rfl | rfl | rfl <;> exact rfl) (by rw [eq_of_beq hc63]; exact .miss (int_ne (by decide)) (.miss (int_ne (by decide)) (.hit _ _))) (by kernel_rfl) ?_
          refine AOps_forget 0x800 (mkS 15 [(11, .tup [.ag [.fn (.func 66) [] [.pt [.fn (.func 35) [] []], .pt [.fn (.func 33) [] []]], .fn (.func 68) [] [.pt [.fn (.func 36) [] []], .pt [.fn (.func 37) [] []]]], bo true])]) (by kernel_rfl) ?_
          refine AOps_seg 3 0x3000 (mkS 15 [(12, .ag [.fn (.func 66) [] [.pt [.fn (.func 35) [] []], .pt [.fn (.func 33) [] []]], .fn (.func 68) [] [.pt [.fn (.func 36) [] []], .pt [.fn (.func 37) [] []]]]), (13, bo true)]) none [7, 8, 9] (by kernel_rfl) (by kernel_rfl) trivial ?_
          refine AOps_newvar (zs := [.lit .nilFunc, .lit .nilFunc]) (ds := [.fn (.func 66) [] [.pt [.fn (.func 35) [] []], .pt [.fn (.func 33) [] []]], .fn (.func 68) [] [.pt [.fn (.func 36) [] []], .pt [.fn (.func 37) [] []]]]) (d := 5) (tl_get rfl) rfl rfl rfl (by kernel_rfl) (by kernel_rfl) (tl_get rfl) (fun _ => rfl) rfl rfl (fun _ => rfl) rfl (by kernel_rfl) (by kernel_rfl) ?_
          refine AOps_forget 0x2020 (mkS 15 [(5, .pt [.fn (.func 66) [] [.pt [.fn (.func 35) [] []], .pt [.fn (.func 33) [] []]], .fn (.func 68) [] [.pt [.fn (.func 36) [] []], .pt [.fn (.func 37) [] []]]]), (13, bo true)]) (by kernel_rfl) ?_
          refine AOps_seg 1 0x40 (mkS 15 [(6, bo true)]) none [] (by kernel_rfl) (by kernel_rfl) trivial ?_
          refine AOps_end ?_
          refine athen_n ?_
          refine AT_seq ?_
          refine AT_region ?_
          refine AOps_seg 2 0x10 (mkS 15 [(4, bo true)]) none [] (by kernel_rfl) (by kernel_rfl) trivial ?_
          refine AOps_end ?_
          refine athen_n ?_
          refine AT_ret ?_
          have e_ := Option.some.inj h
          subst e_
          exact ⟨[bo true], bo true, S, (.of (by kernel_rfl)), D.le.refl _, hB60, rfl, rfl⟩
        rw [if_f hc63] at h
        cases hc64 : (a1 == 3)
        rotate_left
        · rw [if_t hc64] at h
          refine AOps_lookup (dsc := .int .i64) (es := [(.int .i64 0, .ag [.fn (.func 24) [] [.pt [i64 a0]], .fn (.func 26) [] [.pt [i64 a0]]]), (.int .i64 1, .ag [.fn (.func 28) [] [.pt [i64 a0]], .fn (.func 30) [] [.pt [i64 a0]]]), (.int .i64 2, .ag [.fn (.func 66) [] [.pt [.fn (.func 35) [] []], .pt [.fn (.func 33) [] []]], .fn (.func 68) [] [.pt [.fn (.func 36) [] []], .pt [.fn (.func 37) [] []]]]), (.int .i64 3, .ag [.fn (.func 77) [] [.pt [.fn (.func 41) [] []], .pt [.fn (.func 40) [] []]], .fn (.func 79) [] [.pt [.fn (.func 42) [] []], .pt [.fn (.func 43) [] []]]])]) (res := some (.ag [.fn (.func 77) [] [.pt [.fn (.func 41) [] []], .pt [.fn (.func 40) [] []]], .fn (.func 79) [] [.pt [.fn (.func 42) [] []], .pt [.fn (.func 43) [] []]]])) (zd := .ag [.lit .nilFunc, .lit .nilFunc]) (tl_get rfl) rfl rfl rfl rfl rfl at59 rfl rfl (by intro x hx; simp only [List.mem_cons, List.not_mem_nil, or_false] at hx; rcases hx with rfl | rfl | rfl | rfl <;> exact rfl) (by rw [eq_of_beq hc64]; exact .miss (int_ne (by decide)) (.miss (int_ne (by decide)) (.miss (int_ne (by decide)) (.hit _ _)))) (by kernel_rfl) ?_
          refine AOps_forget 0x800 (mkS 15 [(11, .tup [.ag [.fn (.func 77) [] [.pt [.fn (.func 41) [] []], .pt [.fn (.func 40) [] []]], .fn (.func 79) [] [.pt [.fn (.func 42) [] []], .pt [.fn (.func 43) [] []]]], bo true])]) (by kernel_rfl) ?_
          refine AOps_seg 3 0x3000 (mkS 15 [(12, .ag [.fn (.func 77) [] [.pt [.fn (.func 41) [] []], .pt [.fn (.func 40) [] []]], .fn (.func 79) [] [.pt [.fn (.func 42) [] []], .pt [.fn (.func 43) [] []]]]), (13, bo true)]) none [7, 8, 9] (by kernel_rfl) (by kernel_rfl) trivial ?_
          refine AOps_newvar (zs := [.lit .nilFunc, .lit .nilFunc]) (ds := [.fn (.func 77) [] [.pt [.fn (.func 41) [] []], .pt [.fn (.func 40) [] []]], .fn (.func 79) [] [.pt [.fn (.func 42) [] []], .pt [.fn (.func 43) [] []]]]) (d := 5) (tl_get rfl) rfl rfl rfl (by kernel_rfl) (by kernel_rfl) (tl_get rfl) (fun _ => rfl) rfl rfl (fun _ => rfl) rfl (by kernel_rfl) (by kernel_rfl) ?_
          refine AOps_forget 0x2020 (mkS 15 [(5, .pt [.fn (.func 77) [] [.pt [.fn (.func 41) [] []], .pt [.fn (.func 40) [] []]], .fn (.func 79) [] [.pt [.fn (.func 42) [] []], .pt [.fn (.func 43) [] []]]]), (13, bo true)]) (by kernel_rfl) ?_
          refine AOps_seg 1 0x40 (mkS 15 [(6, bo true)]) none [] (by kernel_rfl) (by kernel_rfl) trivial ?_
          refine AOps_end ?_
          refine athen_n ?_
          refine AT_seq ?_
          refine AT_region ?_
          refine AOps_seg 2 0x10 (mkS 15 [(4, bo true)]) none [] (by kernel_rfl) (by kernel_rfl) trivial ?_
          refine AOps_end ?_
          refine athen_n ?_
          refine AT_ret ?_
          have e_ := Option.some.inj h
          subst e_
          exact ⟨[bo true], bo true, S, (.of (by kernel_rfl)), D.le.refl _, hB60, rfl, rfl⟩
        rw [if_f hc64] at h
        refine AOps_lookup (dsc := .int .i64) (es := [(.int .i64 0, .ag [.fn (.func 24) [] [.pt [i64 a0]], .fn (.func 26) [] [.pt [i64 a0]]]), (.int .i64 1, .ag [.fn (.func 28) [] [.pt [i64 a0]], .fn (.func 30) [] [.pt [i64 a0]]]), (.int .i64 2, .ag [.fn (.func 66) [] [.pt [.fn (.func 35) [] []], .pt [.fn (.func 33) [] []]], .fn (.func 68) [] [.pt [.fn (.func 36) [] []], .pt [.fn (.func 37) [] []]]]), (.int .i64 3, .ag [.fn (.func 77) [] [.pt [.fn (.func 41) [] []], .pt [.fn (.func 40) [] []]], .fn (.func 79) [] [.pt [.fn (.func 42) [] []], .pt [.fn (.func 43) [] []]]])]) (res := none) (zd := .ag [.lit .nilFunc, .lit .nilFunc]) (tl_get rfl) rfl rfl rfl rfl rfl at59 rfl rfl (by intro x hx; simp only [List.mem_cons, List.not_mem_nil, or_false] at hx; rcases hx with rfl | rfl | rfl | rfl <;> exact rfl) (.miss (int_ne (beq_ne hc61)) (.miss (int_ne (beq_ne hc62)) (.miss (int_ne (beq_ne hc63)) (.miss (int_ne (beq_ne hc64)) (.nil))))) (by kernel_rfl) ?_
        refine AOps_forget 0x800 (mkS 15 [(11, .tup [.ag [.lit .nilFunc, .lit .nilFunc], bo false])]) (by kernel_rfl) ?_
        refine AOps_seg 3 0x3000 (mkS 15 [(12, .ag [.lit .nilFunc, .lit .nilFunc]), (13, bo false)]) none [7, 8, 9] (by kernel_rfl) (by kernel_rfl) trivial ?_
        refine AOps_newvar (zs := [.lit .nilFunc, .lit .nilFunc]) (ds := [.lit .nilFunc, .lit .nilFunc]) (d := 5) (tl_get rfl) rfl rfl rfl (by kernel_rfl) (by kernel_rfl) (tl_get rfl) (fun _ => rfl) rfl rfl (fun _ => rfl) rfl (by kernel_rfl) (by kernel_rfl) ?_
        refine AOps_forget 0x2020 (mkS 15 [(5, .pt [.lit .nilFunc, .lit .nilFunc]), (13, bo false)]) (by kernel_rfl) ?_
        refine AOps_seg 1 0x40 (mkS 15 [(6, bo false)]) none [] (by kernel_rfl) (by kernel_rfl) trivial ?_
        refine AOps_end ?_
        refine athen_n ?_
        refine AT_seq ?_
        refine AT_region ?_
        refine AOps_seg 2 0x10 (mkS 15 [(4, bo false)]) none [] (by kernel_rfl) (by kernel_rfl) trivial ?_
        refine AOps_end ?_
        refine athen_n ?_
        refine AT_ret ?_
        have e_ := Option.some.inj h
        subst e_
        exact ⟨[bo false], bo false, S, (.of (by kernel_rfl)), D.le.refl _, hB60, rfl, rfl⟩
      · rw [if_f hc18] at h
        refine AOps_seg 3 0x8000022 (mkS 44 [(1, .pt [i64 a0]), (5, .mp m4), (27, bo (a0 == 1))]) none [] (by kernel_rfl) (by kernel_rfl) trivial ?_
        refine AOps_end ?_
        refine athen_n ?_
        refine AT_condS (a0 == 1) (by kernel_rfl) (fun hc65 => ?_) (fun hc65 => ?_)
        · rw [if_t hc65] at h
          refine AT_region ?_
          refine AOps_seg 1 0x10000022 (mkS 44 [(1, .pt [i64 a0]), (5, .mp m4), (28, .mp m4)]) none [1, 2] (by kernel_rfl) (by kernel_rfl) trivial ?_
          refine AOps_inline [.fn (.func 33) [] [], .fn (.func 35) [] [], .fn (.func 36) [] [], .fn (.func 37) [] []] (tl_get rfl) rfl rfl rfl (by kernel_rfl) Tryz.func32 (by decide) rfl rfl ?_
          refine AT_forget 0xf (mkS 12 [(0, .fn (.func 33) [] []), (1, .fn (.func 35) [] []), (2, .fn (.func 36) [] []), (3, .fn (.func 37) [] [])]) (by kernel_rfl) ?_
          refine AT_seq ?_
          refine AT_region ?_
          refine AOps_box_im (ds := [.fn (.func 33) [] []]) (tl_get rfl) rfl rfl (by kernel_rfl) ?_
          refine AOps_forget 0x1e (mkS 12 [(1, .fn (.func 35) [] []), (2, .fn (.func 36) [] []), (3, .fn (.func 37) [] []), (4, .pt [.fn (.func 33) [] []])]) (by kernel_rfl) ?_
          refine AOps_box_im (ds := [.fn (.func 35) [] []]) (tl_get rfl) rfl rfl (by kernel_rfl) ?_
          refine AOps_forget 0x3c (mkS 12 [(2, .fn (.func 36) [] []), (3, .fn (.func 37) [] []), (4, .pt [.fn (.func 33) [] []]), (5, .pt [.fn (.func 35) [] []])]) (by kernel_rfl) ?_
          refine AOps_box_im (ds := [.fn (.func 36) [] []]) (tl_get rfl) rfl rfl (by kernel_rfl) ?_
          refine AOps_forget 0x78 (mkS 12 [(3, .fn (.func 37) [] []), (4, .pt [.fn (.func 33) [] []]), (5, .pt [.fn (.func 35) [] []]), (6, .pt [.fn (.func 36) [] []])]) (by kernel_rfl) ?_
          refine AOps_box_im (ds := [.fn (.func 37) [] []]) (tl_get rfl) rfl rfl (by kernel_rfl) ?_
          refine AOps_forget 0xf0 (mkS 12 [(4, .pt [.fn (.func 33) [] []]), (5, .pt [.fn (.func 35) [] []]), (6, .pt [.fn (.func 36) [] []]), (7, .pt [.fn (.func 37) [] []])]) (by kernel_rfl) ?_
          refine AOps_allocU (ds := [.lit .nilFunc, .lit .nilFunc]) (tl_get rfl) rfl rfl (by kernel_rfl) (fun S66 m67 hf69 u68 => ?_)
          have ff70 := fresh_leO hB17 hf69
          have ne71 := ne_of_freshO at16 hf69
          have at72 := u68.ob at16 ne71
          have at73 : Store.ob S66 m67 = some (.cells 49 [.lit .nilFunc, .lit .nilFunc]) := u68.at_.trans (by kernel_rfl)
          have hB74 := u68.le hB17 ff70
          refine AOps_forget 0x1f0 (mkS 12 [(4, .pt [.fn (.func 33) [] []]), (5, .pt [.fn (.func 35) [] []]), (6, .pt [.fn (.func 36) [] []]), (7, .pt [.fn (.func 37) [] []]), (8, .ob m67 0)]) (by kernel_rfl) ?_
          refine AOps_end ?_
          refine athen_n ?_
          refine AT_seq ?_
          refine AT_region ?_
          refine AOps_seg 3 0x900 (mkS 12 [(8, .ob m67 0), (11, .ag [.fn (.func 66) [] [.pt [.fn (.func 35) [] []], .pt [.fn (.func 33) [] []]], .fn (.func 68) [] [.pt [.fn (.func 36) [] []], .pt [.fn (.func 37) [] []]]])]) none [3] (by kernel_rfl) (by kernel_rfl) trivial ?_
          refine AOps_putU (T := 49) (off := 0) (cs := [.lit .nilFunc, .lit .nilFunc]) (ds := [.fn (.func 66) [] [.pt [.fn (.func 35) [] []], .pt [.fn (.func 33) [] []]], .fn (.func 68) [] [.pt [.fn (.func 36) [] []], .pt [.fn (.func 37) [] []]]]) (cs' := [.fn (.func 66) [] [.pt [.fn (.func 35) [] []], .pt [.fn (.func 33) [] []]], .fn (.func 68) [] [.pt [.fn (.func 36) [] []], .pt [.fn (.func 37) [] []]]]) (tl_get rfl) rfl rfl rfl at73 rfl (by kernel_rfl) (by decide) rfl (fun S75 u76 => ?_)
          have at77 := u76.ob at72 ne71
          have at78 : Store.ob S75 m67 = some (.cells 49 [.fn (.func 66) [] [.pt [.fn (.func 35) [] []], .pt [.fn (.func 33) [] []]], .fn (.func 68) [] [.pt [.fn (.func 36) [] []], .pt [.fn (.func 37) [] []]]]) := u76.at_.trans (by kernel_rfl)
          have hB79 := u76.le hB74 ff70
          refine AOps_forget 0x100 (mkS 12 [(8, .ob m67 0)]) (by kernel_rfl) ?_
          refine AOps_end ?_
          refine athen_n ?_
          refine AT_ret ?_
          refine ⟨[.ag [.fn (.func 66) [] [.pt [.fn (.func 35) [] []], .pt [.fn (.func 33) [] []]], .fn (.func 68) [] [.pt [.fn (.func 36) [] []], .pt [.fn (.func 37) [] []]]]], .ag [.fn (.func 66) [] [.pt [.fn (.func 35) [] []], .pt [.fn (.func 33) [] []]], .fn (.func 68) [] [.pt [.fn (.func 36) [] []], .pt [.fn (.func 37) [] []]]], S75, (.ob (o := 0) (by kernel_rfl) at78 (.inl ⟨by kernel_rfl, 2, by kernel_rfl, by decide, by kernel_rfl⟩) (.nil)), D.le.refl _, Store.le.refl _, ?_⟩
          refine AOps_forget 0x30000022 (mkS 44 [(1, .pt [i64 a0]), (5, .mp m4), (28, .mp m4), (29, .ag [.fn (.func 66) [] [.pt [.fn (.func 35) [] []], .pt [.fn (.func 33) [] []]], .fn (.func 68) [] [.pt [.fn (.func 36) [] []], .pt [.fn (.func 37) [] []]]])]) (by kernel_rfl) ?_
          refine AOps_insertU (dsc := .int .i64) (es := [(.int .i64 0, .ag [.fn (.func 24) [] [.pt [i64 a0]], .fn (.func 26) [] [.pt [i64 a0]]]), (.int .i64 1, .ag [.fn (.func 28) [] [.pt [i64 a0]], .fn (.func 30) [] [.pt [i64 a0]]])]) (kv := .int .i64 2) (tl_get rfl) rfl (by first | exact .inl rfl | exact .inr rfl) rfl rfl rfl at77 rfl rfl (by intro x hx; simp only [List.mem_cons, List.not_mem_nil, or_false] at hx; rcases hx with rfl | rfl <;> exact rfl) (.miss (int_ne (by decide)) (.miss (int_ne (by decide)) (.nil))) (fun S80 u81 => ?_)
          have at82 := u81.ob at78 ne71.symm
          have at83 : Store.ob S80 m4 = some (mapO [(.int .i64 0, .ag [.fn (.func 24) [] [.pt [i64 a0]], .fn (.func 26) [] [.pt [i64 a0]]]), (.int .i64 1, .ag [.fn (.func 28) [] [.pt [i64 a0]], .fn (.func 30) [] [.pt [i64 a0]]]), (.int .i64 2, .ag [.fn (.func 66) [] [.pt [.fn (.func 35) [] []], .pt [.fn (.func 33) [] []]], .fn (.func 68) [] [.pt [.fn (.func 36) [] []], .pt [.fn (.func 37) [] []]]])]) := u81.at_.trans (by kernel_rfl)
          have hB84 := u81.le hB79 ff7
          refine AOps_forget 0x22 (mkS 44 [(1, .pt [i64 a0]), (5, .mp m4)]) (by kernel_rfl) ?_
          refine AOps_end ?_
          refine athen_n ?_
          refine AT_seq ?_
          refine AT_seq ?_
          refine AT_region ?_
          refine AOps_seg 1 0x40000020 (mkS 44 [(5, .mp m4), (30, i64 a0)]) none [] (by kernel_rfl) (by kernel_rfl) trivial ?_
          refine AOps_end ?_
          refine athen_n ?_
          refine AT_block ?_
          refine AT_seq ?_
          refine AT_region ?_
          refine AOps_seg 2 0xc0000020 (mkS 44 [(5, .mp m4), (30, i64 a0), (31, bo (a0 == 0))]) none [] (by kernel_rfl) (by kernel_rfl) trivial ?_
          refine AOps_end ?_
          refine athen_n ?_
          refine AT_condN (by kernel_rfl) hc18 ?_
          refine AT_seq ?_
          refine AT_region ?_
          refine AOps_seg 2 0x840000020 (mkS 44 [(5, .mp m4), (30, i64 a0), (35, bo (a0 == 3))]) none [] (by kernel_rfl) (by kernel_rfl) trivial ?_
          refine AOps_end ?_
          refine athen_n ?_
          have hc85 : (a0 == 3) = false := by rw [eq_of_beq hc65]; rfl
          refine AT_condN (by kernel_rfl) hc85 ?_
          refine AT_seq ?_
          refine AT_region ?_
          refine AOps_seg 2 0x8000000020 (mkS 44 [(5, .mp m4), (39, bo (a0 == 2))]) none [] (by kernel_rfl) (by kernel_rfl) trivial ?_
          refine AOps_end ?_
          refine athen_n ?_
          have hc86 : (a0 == 2) = false := by rw [eq_of_beq hc65]; rfl
          refine AT_condN (by kernel_rfl) hc86 ?_
          refine AT_skip ?_
          refine ablock_n ?_
          refine athen_n ?_
          refine AT_seq ?_
          refine AT_region ?_
          refine AOps_seg 2 0x4 (mkS 44 [(2, .mp m4)]) none [] (by kernel_rfl) (by kernel_rfl) trivial ?_
          refine AOps_end ?_
          refine athen_n ?_
          refine AT_ret ?_
          refine ⟨[.mp m4], .mp m4, S80, (.of (by kernel_rfl)), D.le.refl _, Store.le.refl _, ?_⟩
          refine AOps_forget 0x202 (mkS 15 [(1, i64 a1), (9, .mp m4)]) (by kernel_rfl) ?_
          refine AOps_seg 1 0x600 (mkS 15 [(9, .mp m4), (10, i64 a1)]) none [3, 4, 5, 6, 7, 8, 9] (by kernel_rfl) (by kernel_rfl) trivial ?_
          cases hc87 : (a1 == 0)
          rotate_left
          · rw [if_t hc87] at h
            refine AOps_lookup (dsc := .int .i64) (es := [(.int .i64 0, .ag [.fn (.func 24) [] [.pt [i64 a0]], .fn (.func 26) [] [.pt [i64 a0]]]), (.int .i64 1, .ag [.fn (.func 28) [] [.pt [i64 a0]], .fn (.func 30) [] [.pt [i64 a0]]]), (.int .i64 2, .ag [.fn (.func 66) [] [.pt [.fn (.func 35) [] []], .pt [.fn (.func 33) [] []]], .fn (.func 68) [] [.pt [.fn (.func 36) [] []], .pt [.fn (.func 37) [] []]]])]) (res := some (.ag [.fn (.func 24) [] [.pt [i64 a0]], .fn (.func 26) [] [.pt [i64 a0]]])) (zd := .ag [.lit .nilFunc, .lit .nilFunc]) (tl_get rfl) rfl rfl rfl rfl rfl at83 rfl rfl (by intro x hx; simp only [List.mem_cons, List.not_mem_nil, or_false] at hx; rcases hx with rfl | rfl | rfl <;> exact rfl) (by rw [eq_of_beq hc87]; exact .hit _ _) (by kernel_rfl) ?_
            refine AOps_forget 0x800 (mkS 15 [(11, .tup [.ag [.fn (.func 24) [] [.pt [i64 a0]], .fn (.func 26) [] [.pt [i64 a0]]], bo true])]) (by kernel_rfl) ?_
            refine AOps_seg 3 0x3000 (mkS 15 [(12, .ag [.fn (.func 24) [] [.pt [i64 a0]], .fn (.func 26) [] [.pt [i64 a0]]]), (13, bo true)]) none [7, 8, 9] (by kernel_rfl) (by kernel_rfl) trivial ?_
            refine AOps_newvar (zs := [.lit .nilFunc, .lit .nilFunc]) (ds := [.fn (.func 24) [] [.pt [i64 a0]], .fn (.func 26) [] [.pt [i64 a0]]]) (d := 5) (tl_get rfl) rfl rfl rfl (by kernel_rfl) (by kernel_rfl) (tl_get rfl) (fun _ => rfl) rfl rfl (fun _ => rfl) rfl (by kernel_rfl) (by kernel_rfl) ?_
            refine AOps_forget 0x2020 (mkS 15 [(5, .pt [.fn (.func 24) [] [.pt [i64 a0]], .fn (.func 26) [] [.pt [i64 a0]]]), (13, bo true)]) (by kernel_rfl) ?_
            refine AOps_seg 1 0x40 (mkS 15 [(6, bo true)]) none [] (by kernel_rfl) (by kernel_rfl) trivial ?_
            refine AOps_end ?_
            refine athen_n ?_
            refine AT_seq ?_
            refine AT_region ?_
            refine AOps_seg 2 0x10 (mkS 15 [(4, bo true)]) none [] (by kernel_rfl) (by kernel_rfl) trivial ?_
            refine AOps_end ?_
            refine athen_n ?_
            refine AT_ret ?_
            have e_ := Option.some.inj h
            subst e_
            exact ⟨[bo true], bo true, S, (.of (by kernel_rfl)), D.le.refl _, hB84, rfl, rfl⟩
          rw [if_f hc87] at h
          cases hc88 : (a1 == 1)
          rotate_left
          · rw [if_t hc88] at h
            refine AOps_lookup (dsc := .int .i64) (es := [(.int .i64 0, .ag [.fn (.func 24) [] [.pt [i64 a0]], .fn (.func 26) [] [.pt [i64 a0]]]), (.int .i64 1, .ag [.fn (.func 28) [] [.pt [i64 a0]], .fn (.func 30) [] [.pt [i64 a0]]]), (.int .i64 2, .ag [.fn (.func 66) [] [.pt [.fn (.func 35) [] []], .pt [.fn (.func 33) [] []]], .fn (.func 68) [] [.pt [.fn (.func 36) [] []], .pt [.fn (.func 37) [] []]]])]) (res := some (.ag [.fn (.func 28) [] [.pt [i64 a0]], .fn (.func 30) [] [.pt [i64 a0]]])) (zd := .ag [.lit .nilFunc, .lit .nilFunc]) (tl_get rfl) rfl rfl rfl rfl rfl at83 rfl rfl (by intro x hx; simp only [List.mem_cons, List.not_mem_nil, or_false] at hx; rcases hx with rfl | rfl | rfl <;> exact rfl) (by rw [eq_of_beq hc88]; exact .miss (int_ne (by decide)) (.hit _ _)) (by kernel_rfl) ?_
            refine AOps_forget 0x800 (mkS 15 [(11, .tup [.ag [.fn (.func 28) [] [.pt [i64 a0]], .fn (.func 30) [] [.pt [i64 a0]]], bo true])]) (by kernel_rfl) ?_
            refine AOps_seg 3 0x3000 (mkS 15 [(12, .ag [.fn (.func 28) [] [.pt [i64 a0]], .fn (.func 30) [] [.pt [i64 a0]]]), (13, bo true)]) none [7, 8, 9] (by kernel_rfl) (by kernel_rfl) trivial ?_
            refine AOps_newvar (zs := [.lit .nilFunc, .lit .nilFunc]) (ds := [.fn (.func 28) [] [.pt [i64 a0]], .fn (.func 30) [] [.pt [i64 a0]]]) (d := 5) (tl_get rfl) rfl rfl rfl (by kernel_rfl) (by kernel_rfl) (tl_get rfl) (fun _ => rfl) rfl rfl (fun _ => rfl) rfl (by kernel_rfl) (by kernel_rfl) ?_
            refine AOps_forget 0x2020 (mkS 15 [(5, .pt [.fn (.func 28) [] [.pt [i64 a0]], .fn (.func 30) [] [.pt [i64 a0]]]), (13, bo true)]) (by kernel_rfl) ?_
            refine AOps_seg 1 0x40 (mkS 15 [(6, bo true)]) none [] (by kernel_rfl) (by kernel_rfl) trivial ?_
            refine AOps_end ?_
            refine athen_n ?_
            refine AT_seq ?_
            refine AT_region ?_
            refine AOps_seg 2 0x10 (mkS 15 [(4, bo true)]) none [] (by kernel_rfl) (by kernel_rfl) trivial ?_
            refine AOps_end ?_
            refine athen_n ?_
            refine AT_ret ?_
            have e_ := Option.some.inj h
            subst e_
            exact ⟨[bo true], bo true, S, (.of (by kernel_rfl)), D.le.refl _, hB84, rfl, rfl⟩
          rw [if_f hc88] at h
          cases hc89 : (a1 == 2)
          rotate_left
          · rw [if_t hc89] at h
            refine AOps_lookup (dsc := .int .i64) (es := [(.int .i64 0, .ag [.fn (.func 24) [] [.pt [i64 a0]], .fn (.func 26) [] [.pt [i64 a0]]]), (.int .i64 1, .ag [.fn (.func 28) [] [.pt [i64 a0]], .fn (.func 30) [] [.pt [i64 a0]]]), (.int .i64 2, .ag [.fn (.func 66) [] [.pt [.fn (.func 35) [] []], .pt [.fn (.func 33) [] []]], .fn (.func 68) [] [.pt [.fn (.func 36) [] []], .pt [.fn (.func 37) [] []]]])]) (res := some (.ag [.fn (.func 66) [] [.pt [.fn (.func 35) [] []], .pt [.fn (.func 33) [] []]], .fn (.func 68) [] [.pt [.fn (.func 36) [] []], .pt [.fn (.func 37) [] []]]])) (zd := .ag [.lit .nilFunc, .lit .nilFunc]) (tl_get rfl) rfl rfl rfl rfl rfl at83 rfl rfl (by intro x hx; simp only [List.mem_cons, List.not_mem_nil, or_false] at hx; rcases hx with rfl | rfl | rfl <;> exact rfl) (by rw [eq_of_beq hc89]; exact .miss (int_ne (by decide)) (.miss (int_ne (by decide)) (.hit _ _))) (by kernel_rfl) ?_
            refine AOps_forget 0x800 (mkS 15 [(11, .tup [.ag [.fn (.func 66) [] [.pt [.fn (.func 35) [] []], .pt [.fn (.func 33) [] []]], .fn (.func 68) [] [.pt [.fn (.func 36) [] []], .pt [.fn (.func 37) [] []]]], bo true])]) (by kernel_rfl) ?_
            refine AOps_seg 3 0x3000 (mkS 15 [(12, .ag [.fn (.func 66) [] [.pt [.fn (.func 35) [] []], .pt [.fn (.func 33) [] []]], .fn (.func 68) [] [.pt [.fn (.func 36) [] []], .pt [.fn (.func 37) [] []]]]), (13, bo true)]) none [7, 8, 9] (by kernel_rfl) (by kernel_rfl) trivial ?_
            refine AOps_newvar (zs := [.lit .nilFunc, .lit .nilFunc]) (ds := [.fn (.func 66) [] [.pt [.fn (.func 35) [] []], .pt [.fn (.func 33) [] []]], .fn (.func 68) [] [.pt [.fn (.func 36) [] []], .pt [.fn (.func 37) [] []]]]) (d := 5) (tl_get rfl) rfl rfl rfl (by kernel_rfl) (by kernel_rfl) (tl_get rfl) (fun _ => rfl) rfl rfl (fun _ => rfl) rfl (by kernel_rfl) (by kernel_rfl) ?_
            refine AOps_forget 0x2020 (mkS 15 [(5, .pt [.fn (.func 66) [] [.pt [.fn (.func 35) [] []], .pt [.fn (.func 33) [] []]], .fn (.func 68) [] [.pt [.fn (.func 36) [] []], .pt [.fn (.func 37) [] []]]]), (13, bo true)]) (by kernel_rfl) ?_
            refine AOps_seg 1 0x40 (mkS 15 [(6, bo true)]) none [] (by kernel_rfl) (by kernel_rfl) trivial ?_
            refine AOps_end ?_
            refine athen_n ?_
            refine AT_seq ?_
            refine AT_region ?_
            refine AOps_seg 2 0x10 (mkS 15 [(4, bo true)]) none [] (by kernel_rfl) (by kernel_rfl) trivial ?_
            refine AOps_end ?_
            refine athen_n ?_
            refine AT_ret ?_
            have e_ := Option.some.inj h
            subst e_
            exact ⟨[bo true], bo true, S, (.of (by kernel_rfl)), D.le.refl _, hB84, rfl, rfl⟩
          rw [if_f hc89] at h
          refine AOps_lookup (dsc := .int .i64) (es := [(.int .i64 0, .ag [.fn (.func 24) [] [.pt [i64 a0]], .fn (.func 26) [] [.pt [i64 a0]]]), (.int .i64 1, .ag [.fn (.func 28) [] [.pt [i64 a0]], .fn (.func 30) [] [.pt [i64 a0]]]), (.int .i64 2, .ag [.fn (.func 66) [] [.pt [.fn (.func 35) [] []], .pt [.fn (.func 33) [] []]], .fn (.func 68) [] [.pt [.fn (.func 36) [] []], .pt [.fn (.func 37) [] []]]])]) (res := none) (zd := .ag [.lit .nilFunc, .lit .nilFunc]) (tl_get rfl) rfl rfl rfl rfl rfl at83 rfl rfl (by intro x hx; simp only [List.mem_cons, List.not_mem_nil, or_false] at hx; rcases hx with rfl | rfl | rfl <;> exact rfl) (.miss (int_ne (beq_ne hc87)) (.miss (int_ne (beq_ne hc88)) (.miss (int_ne (beq_ne hc89)) (.nil)))) (by kernel_rfl) ?_
          refine AOps_forget 0x800 (mkS 15 [(11, .tup [.ag [.lit .nilFunc, .lit .nilFunc], bo false])]) (by kernel_rfl) ?_
          refine AOps_seg 3 0x3000 (mkS 15 [(12, .ag [.lit .nilFunc, .lit .nilFunc]), (13, bo false)]) none [7, 8, 9] (by kernel_rfl) (by kernel_rfl) trivial ?_
          refine AOps_newvar (zs := [.lit .nilFunc, .lit .nilFunc]) (ds := [.lit .nilFunc, .lit .nilFunc]) (d := 5) (tl_get rfl) rfl rfl rfl (by kernel_rfl) (by kernel_rfl) (tl_get rfl) (fun _ => rfl) rfl rfl (fun _ => rfl) rfl (by kernel_rfl) (by kernel_rfl) ?_
          refine AOps_forget 0x2020 (mkS 15 [(5, .pt [.lit .nilFunc, .lit .nilFunc]), (13, bo false)]) (by kernel_rfl) ?_
          refine AOps_seg 1 0x40 (mkS 15 [(6, bo false)]) none [] (by kernel_rfl) (by kernel_rfl) trivial ?_
          refine AOps_end ?_
          refine athen_n ?_
          refine AT_seq ?_
          refine AT_region ?_
          refine AOps_seg 2 0x10 (mkS 15 [(4, bo false)]) none [] (by kernel_rfl) (by kernel_rfl) trivial ?_
          refine AOps_end ?_
          refine athen_n ?_
          refine AT_ret ?_
          have e_ := Option.some.inj h
          subst e_
          exact ⟨[bo false], bo false, S, (.of (by kernel_rfl)), D.le.refl _, hB84, rfl, rfl⟩
        · rw [if_f hc65] at h
          refine AT_skip ?_
          refine athen_n ?_
          refine AT_seq ?_
          refine AT_seq ?_
          refine AT_region ?_
          refine AOps_seg 1 0x40000020 (mkS 44 [(5, .mp m4), (30, i64 a0)]) none [] (by kernel_rfl) (by kernel_rfl) trivial ?_
          refine AOps_end ?_
          refine athen_n ?_
          refine AT_block ?_
          refine AT_seq ?_
          refine AT_region ?_
          refine AOps_seg 2 0xc0000020 (mkS 44 [(5, .mp m4), (30, i64 a0), (31, bo (a0 == 0))]) none [] (by kernel_rfl) (by kernel_rfl) trivial ?_
          refine AOps_end ?_
          refine athen_n ?_
          refine AT_condN (by kernel_rfl) hc18 ?_
          refine AT_seq ?_
          refine AT_region ?_
          refine AOps_seg 2 0x840000020 (mkS 44 [(5, .mp m4), (30, i64 a0), (35, bo (a0 == 3))]) none [] (by kernel_rfl) (by kernel_rfl) trivial ?_
          refine AOps_end ?_
          refine athen_n ?_
          refine AT_condS (a0 == 3) (by kernel_rfl) (fun hc90 => ?_) (fun hc90 => ?_)
          · rw [if_t hc90] at h
            refine AT_region ?_
            refine AOps_seg 1 0x2000000020 (mkS 44 [(5, .mp m4), (37, .mp m4)]) none [1, 2] (by kernel_rfl) (by kernel_rfl) trivial ?_
            refine AOps_inline [.fn (.func 45) [] [], .fn (.func 46) [] [], .fn (.func 47) [] [], .fn (.func 48) [] []] (tl_get rfl) rfl rfl rfl (by kernel_rfl) Tryz.func44 (by decide) rfl rfl ?_
            refine AT_forget 0xf (mkS 12 [(0, .fn (.func 45) [] []), (1, .fn (.func 46) [] []), (2, .fn (.func 47) [] []), (3, .fn (.func 48) [] [])]) (by kernel_rfl) ?_
            refine AT_seq ?_
            refine AT_region ?_
            refine AOps_box_im (ds := [.fn (.func 45) [] []]) (tl_get rfl) rfl rfl (by kernel_rfl) ?_
            refine AOps_forget 0x1e (mkS 12 [(1, .fn (.func 46) [] []), (2, .fn (.func 47) [] []), (3, .fn (.func 48) [] []), (4, .pt [.fn (.func 45) [] []])]) (by kernel_rfl) ?_
            refine AOps_box_im (ds := [.fn (.func 46) [] []]) (tl_get rfl) rfl rfl (by kernel_rfl) ?_
            refine AOps_forget 0x3c (mkS 12 [(2, .fn (.func 47) [] []), (3, .fn (.func 48) [] []), (4, .pt [.fn (.func 45) [] []]), (5, .pt [.fn (.func 46) [] []])]) (by kernel_rfl) ?_
            refine AOps_box_im (ds := [.fn (.func 47) [] []]) (tl_get rfl) rfl rfl (by kernel_rfl) ?_
            refine AOps_forget 0x78 (mkS 12 [(3, .fn (.func 48) [] []), (4, .pt [.fn (.func 45) [] []]), (5, .pt [.fn (.func 46) [] []]), (6, .pt [.fn (.func 47) [] []])]) (by kernel_rfl) ?_
            refine AOps_box_im (ds := [.fn (.func 48) [] []]) (tl_get rfl) rfl rfl (by kernel_rfl) ?_
            refine AOps_forget 0xf0 (mkS 12 [(4, .pt [.fn (.func 45) [] []]), (5, .pt [.fn (.func 46) [] []]), (6, .pt [.fn (.func 47) [] []]), (7, .pt [.fn (.func 48) [] []])]) (by kernel_rfl) ?_
            refine AOps_allocU (ds := [.lit .nilFunc, .lit .nilFunc]) (tl_get rfl) rfl rfl (by kernel_rfl) (fun S91 m92 hf94 u93 => ?_)
            have ff95 := fresh_leO hB17 hf94
            have ne96 := ne_of_freshO at16 hf94
            have at97 := u93.ob at16 ne96
            have at98 : Store.ob S91 m92 = some (.cells 49 [.lit .nilFunc, .lit .nilFunc]) := u93.at_.trans (by kernel_rfl)
            have hB99 := u93.le hB17 ff95
            refine AOps_forget 0x1f0 (mkS 12 [(4, .pt [.fn (.func 45) [] []]), (5, .pt [.fn (.func 46) [] []]), (6, .pt [.fn (.func 47) [] []]), (7, .pt [.fn (.func 48) [] []]), (8, .ob m92 0)]) (by kernel_rfl) ?_
            refine AOps_end ?_
            refine athen_n ?_
            refine AT_seq ?_
            refine AT_region ?_
            refine AOps_seg 3 0x900 (mkS 12 [(8, .ob m92 0), (11, .ag [.fn (.func 85) [] [.pt [.fn (.func 46) [] []], .pt [.fn (.func 45) [] []]], .fn (.func 87) [] [.pt [.fn (.func 47) [] []], .pt [.fn (.func 48) [] []]]])]) none [3] (by kernel_rfl) (by kernel_rfl) trivial ?_
            refine AOps_putU (T := 49) (off := 0) (cs := [.lit .nilFunc, .lit .nilFunc]) (ds := [.fn (.func 85) [] [.pt [.fn (.func 46) [] []], .pt [.fn (.func 45) [] []]], .fn (.func 87) [] [.pt [.fn (.func 47) [] []], .pt [.fn (.func 48) [] []]]]) (cs' := [.fn (.func 85) [] [.pt [.fn (.func 46) [] []], .pt [.fn (.func 45) [] []]], .fn (.func 87) [] [.pt [.fn (.func 47) [] []], .pt [.fn (.func 48) [] []]]]) (tl_get rfl) rfl rfl rfl at98 rfl (by kernel_rfl) (by decide) rfl (fun S100 u101 => ?_)
            have at102 := u101.ob at97 ne96
            have at103 : Store.ob S100 m92 = some (.cells 49 [.fn (.func 85) [] [.pt [.fn (.func 46) [] []], .pt [.fn (.func 45) [] []]], .fn (.func 87) [] [.pt [.fn (.func 47) [] []], .pt [.fn (.func 48) [] []]]]) := u101.at_.trans (by kernel_rfl)
            have hB104 := u101.le hB99 ff95
            refine AOps_forget 0x100 (mkS 12 [(8, .ob m92 0)]) (by kernel_rfl) ?_
            refine AOps_end ?_
            refine athen_n ?_
            refine AT_ret ?_
            refine ⟨[.ag [.fn (.func 85) [] [.pt [.fn (.func 46) [] []], .pt [.fn (.func 45) [] []]], .fn (.func 87) [] [.pt [.fn (.func 47) [] []], .pt [.fn (.func 48) [] []]]]], .ag [.fn (.func 85) [] [.pt [.fn (.func 46) [] []], .pt [.fn (.func 45) [] []]], .fn (.func 87) [] [.pt [.fn (.func 47) [] []], .pt [.fn (.func 48) [] []]]], S100, (.ob (o := 0) (by kernel_rfl) at103 (.inl ⟨by kernel_rfl, 2, by kernel_rfl, by decide, by kernel_rfl⟩) (.nil)), D.le.refl _, Store.le.refl _, ?_⟩
            refine AOps_forget 0x6000000020 (mkS 44 [(5, .mp m4), (37, .mp m4), (38, .ag [.fn (.func 85) [] [.pt [.fn (.func 46) [] []], .pt [.fn (.func 45) [] []]], .fn (.func 87) [] [.pt [.fn (.func 47) [] []], .pt [.fn (.func 48) [] []]]])]) (by kernel_rfl) ?_
            refine AOps_insertU (dsc := .int .i64) (es := [(.int .i64 0, .ag [.fn (.func 24) [] [.pt [i64 a0]], .fn (.func 26) [] [.pt [i64 a0]]]), (.int .i64 1, .ag [.fn (.func 28) [] [.pt [i64 a0]], .fn (.func 30) [] [.pt [i64 a0]]])]) (kv := .int .i64 3) (tl_get rfl) rfl (by first | exact .inl rfl | exact .inr rfl) rfl rfl rfl at102 rfl rfl (by intro x hx; simp only [List.mem_cons, List.not_mem_nil, or_false] at hx; rcases hx with rfl | rfl <;> exact rfl) (.miss (int_ne (by decide)) (.miss (int_ne (by decide)) (.nil))) (fun S105 u106 => ?_)
            have at107 := u106.ob at103 ne96.symm
            have at108 : Store.ob S105 m4 = some (mapO [(.int .i64 0, .ag [.fn (.func 24) [] [.pt [i64 a0]], .fn (.func 26) [] [.pt [i64 a0]]]), (.int .i64 1, .ag [.fn (.func 28) [] [.pt [i64 a0]], .fn (.func 30) [] [.pt [i64 a0]]]), (.int .i64 3, .ag [.fn (.func 85) [] [.pt [.fn (.func 46) [] []], .pt [.fn (.func 45) [] []]], .fn (.func 87) [] [.pt [.fn (.func 47) [] []], .pt [.fn (.func 48) [] []]]])]) := u106.at_.trans (by kernel_rfl)
            have hB109 := u106.le hB104 ff7
            refine AOps_forget 0x20 (mkS 44 [(5, .mp m4)]) (by kernel_rfl) ?_
            refine AOps_end ?_
            refine ablock_n ?_
            refine athen_n ?_
            refine AT_seq ?_
            refine AT_region ?_
            refine AOps_seg 2 0x4 (mkS 44 [(2, .mp m4)]) none [] (by kernel_rfl) (by kernel_rfl) trivial ?_
            refine AOps_end ?_
            refine athen_n ?_
            refine AT_ret ?_
            refine ⟨[.mp m4], .mp m4, S105, (.of (by kernel_rfl)), D.le.refl _, Store.le.refl _, ?_⟩
            refine AOps_forget 0x202 (mkS 15 [(1, i64 a1), (9, .mp m4)]) (by kernel_rfl) ?_
            refine AOps_seg 1 0x600 (mkS 15 [(9, .mp m4), (10, i64 a1)]) none [3, 4, 5, 6, 7, 8, 9] (by kernel_rfl) (by kernel_rfl) trivial ?_
            cases hc110 : (a1 == 0)
            rotate_left
            · rw [if_t hc110] at h
              refine AOps_lookup (dsc := .int .i64) (es := [(.int .i64 0, .ag [.fn (.func 24) [] [.pt [i64 a0]], .fn (.func 26) [] [.pt [i64 a0]]]), (.int .i64 1, .ag [.fn (.func 28) [] [.pt [i64 a0]], .fn (.func 30) [] [.pt [i64 a0]]]), (.int .i64 3, .ag [.fn (.func 85) [] [.pt [.fn (.func 46) [] []], .pt [.fn (.func 45) [] []]], .fn (.func 87) [] [.pt [.fn (.func 47) [] []], .pt [.fn (.func 48) [] []]]])]) (res := some (.ag [.fn (.func 24) [] [.pt [i64 a0]], .fn (.func 26) [] [.pt [i64 a0]]])) (zd := .ag [.lit .nilFunc, .lit .nilFunc]) (tl_get rfl) rfl rfl rfl rfl rfl at108 rfl rfl (by intro x hx; simp only [List.mem_cons, List.not_mem_nil, or_false] at hx; rcases hx with rfl | rfl | rfl <;> exact rfl) (by rw [eq_of_beq hc110]; exact .hit _ _) (by kernel_rfl) ?_
              refine AOps_forget 0x800 (mkS 15 [(11, .tup [.ag [.fn (.func 24) [] [.pt [i64 a0]], .fn (.func 26) [] [.pt [i64 a0]]], bo true])]) (by kernel_rfl) ?_
              refine AOps_seg 3 0x3000 (mkS 15 [(12, .ag [.fn (.func 24) [] [.pt [i64 a0]], .fn (.func 26) [] [.pt [i64 a0]]]), (13, bo true)]) none [7, 8, 9] (by kernel_rfl) (by kernel_rfl) trivial ?_
              refine AOps_newvar (zs := [.lit .nilFunc, .lit .nilFunc]) (ds := [.fn (.func 24) [] [.pt [i64 a0]], .fn (.func 26) [] [.pt [i64 a0]]]) (d := 5) (tl_get rfl) rfl rfl rfl (by kernel_rfl) (by kernel_rfl) (tl_get rfl) (fun _ => rfl) rfl rfl (fun _ => rfl) rfl (by kernel_rfl) (by kernel_rfl) ?_
              refine AOps_forget 0x2020 (mkS 15 [(5, .pt [.fn (.func 24) [] [.pt [i64 a0]], .fn (.func 26) [] [.pt [i64 a0]]]), (13, bo true)]) (by kernel_rfl) ?_
              refine AOps_seg 1 0x40 (mkS 15 [(6, bo true)]) none [] (by kernel_rfl) (by kernel_rfl) trivial ?_
              refine AOps_end ?_
              refine athen_n ?_
              refine AT_seq ?_
              refine AT_region ?_
              refine AOps_seg 2 0x10 (mkS 15 [(4, bo true)]) none [] (by kernel_rfl) (by kernel_rfl) trivial ?_
              refine AOps_end ?_
              refine athen_n ?_
              refine AT_ret ?_
              have e_ := Option.some.inj h
              subst e_
              exact ⟨[bo true], bo true, S, (.of (by kernel_rfl)), D.le.refl _, hB109, rfl, rfl⟩
            rw [if_f hc110] at h
            cases hc111 : (a1 == 1)
            rotate_left
            · rw [if_t hc111] at h
              refine AOps_lookup (dsc := .int .i64) (es := [(.int .i64 0, .ag [.fn (.func 24) [] [.pt [i64 a0]], .fn (.func 26) [] [.pt [i64 a0]]]), (.int .i64 1, .ag [.fn (.func 28) [] [.pt [i64 a0]], .fn (.func 30) [] [.pt [i64 a0]]]), (.int .i64 3, .ag [.fn (.func 85) [] [.pt [.fn (.func 46) [] []], .pt [.fn (.func 45) [] []]], .fn (.func 87) [] [.pt [.fn (.func 47) [] []], .pt [.fn (.func 48) [] []]]])]) (res := some (.ag [.fn (.func 28) [] [.pt [i64 a0]], .fn (.func 30) [] [.pt [i64 a0]]])) (zd := .ag [.lit .nilFunc, .lit .nilFunc]) (tl_get rfl) rfl rfl rfl rfl rfl at108 rfl rfl (by intro x hx; simp only [List.mem_cons, List.not_mem_nil, or_false] at hx; rcases hx with rfl | rfl | rfl <;> exact rfl) (by rw [eq_of_beq hc111]; exact .miss (int_ne (by decide)) (.hit _ _)) (by kernel_rfl) ?_
              refine AOps_forget 0x800 (mkS 15 [(11, .tup [.ag [.fn (.func 28) [] [.pt [i64 a0]], .fn (.func 30) [] [.pt [i64 a0]]], bo true])]) (by kernel_rfl) ?_
              refine AOps_seg 3 0x3000 (mkS 15 [(12, .ag [.fn (.func 28) [] [.pt [i64 a0]], .fn (.func 30) [] [.pt [i64 a0]]]), (13, bo true)]) none [7, 8, 9] (by kernel_rfl) (by kernel_rfl) trivial ?_
              refine AOps_newvar (zs := [.lit .nilFunc, .lit .nilFunc]) (ds := [.fn (.func 28) [] [.pt [i64 a0]], .fn (.func 30) [] [.pt [i64 a0]]]) (d := 5) (tl_get rfl) rfl rfl rfl (by kernel_rfl) (by kernel_rfl) (tl_get rfl) (fun _ => rfl) rfl rfl (fun _ => rfl) rfl (by kernel_rfl) (by kernel_rfl) ?_
              refine AOps_forget 0x2020 (mkS 15 [(5, .pt [.fn (.func 28) [] [.pt [i64 a0]], .fn (.func 30) [] [.pt [i64 a0]]]), (13, bo true)]) (by kernel_rfl) ?_
              refine AOps_seg 1 0x40 (mkS 15 [(6, bo true)]) none [] (by kernel_rfl) (by kernel_rfl) trivial ?_
              refine AOps_end ?_
              refine athen_n ?_
              refine AT_seq ?_
              refine AT_region ?_
              refine AOps_seg 2 0x10 (mkS 15 [(4, bo true)]) none [] (by kernel_rfl) (by kernel_rfl) trivial ?_
              refine AOps_end ?_
              refine athen_n ?_
              refine AT_ret ?_
              have e_ := Option.some.inj h
              subst e_
              exact ⟨[bo true], bo true, S, (.of (by kernel_rfl)), D.le.refl _, hB109, rfl, rfl⟩
            rw [if_f hc111] at h
            cases hc112 : (a1 == 3)
            rotate_left
            · rw [if_t hc112] at h
              refine AOps_lookup (dsc := .int .i64) (es := [(.int .i64 0, .ag [.fn (.func 24) [] [.pt [i64 a0]], .fn (.func 26) [] [.pt [i64 a0]]]), (.int .i64 1, .ag [.fn (.func 28) [] [.pt [i64 a0]], .fn (.func 30) [] [.pt [i64 a0]]]), (.int .i64 3, .ag [.fn (.func 85) [] [.pt [.fn (.func 46) [] []], .pt [.fn (.func 45) [] []]], .fn (.func 87) [] [.pt [.fn (.func 47) [] []], .pt [.fn (.func 48) [] []]]])]) (res := some (.ag [.fn (.func 85) [] [.pt [.fn (.func 46) [] []], .pt [.fn (.func 45) [] []]], .fn (.func 87) [] [.pt [.fn (.func 47) [] []], .pt [.fn (.func 48) [] []]]])) (zd := .ag [.lit .nilFunc, .lit .nilFunc]) (tl_get rfl) rfl rfl rfl rfl rfl at108 rfl rfl (by intro x hx; simp only [List.mem_cons, List.not_mem_nil, or_false] at hx; rcases hx with rfl | rfl | rfl <;> exact rfl) (by rw [eq_of_beq hc112]; exact .miss (int_ne (by decide)) (.miss (int_ne (by decide)) (.hit _ _))) (by kernel_rfl) ?_
              refine AOps_forget 0x800 (mkS 15 [(11, .tup [.ag [.fn (.func 85) [] [.pt [.fn (.func 46) [] []], .pt [.fn (.func 45) [] []]], .fn (.func 87) [] [.pt [.fn (.func 47) [] []], .pt [.fn (.func 48) [] []]]], bo true])]) (by kernel_rfl) ?_
              refine AOps_seg 3 0x3000 (mkS 15 [(12, .ag [.fn (.func 85) [] [.pt [.fn (.func 46) [] []], .pt [.fn (.func 45) [] []]], .fn (.func 87) [] [.pt [.fn (.func 47) [] []], .pt [.fn (.func 48) [] []]]]), (13, bo true)]) none [7, 8, 9] (by kernel_rfl) (by kernel_rfl) trivial ?_
              refine AOps_newvar (zs := [.lit .nilFunc, .lit .nilFunc]) (ds := [.fn (.func 85) [] [.pt [.fn (.func 46) [] []], .pt [.fn (.func 45) [] []]], .fn (.func 87) [] [.pt [.fn (.func 47) [] []], .pt [.fn (.func 48) [] []]]]) (d := 5) (tl_get rfl) rfl rfl rfl (by kernel_rfl) (by kernel_rfl) (tl_get rfl) (fun _ => rfl) rfl rfl (fun _ => rfl) rfl (by kernel_rfl) (by kernel_rfl) ?_
              refine AOps_forget 0x2020 (mkS 15 [(5, .pt [.fn (.func 85) [] [.pt [.fn (.func 46) [] []], .pt [.fn (.func 45) [] []]], .fn (.func 87) [] [.pt [.fn (.func 47) [] []], .pt [.fn (.func 48) [] []]]]), (13, bo true)]) (by kernel_rfl) ?_
              refine AOps_seg 1 0x40 (mkS 15 [(6, bo true)]) none [] (by kernel_rfl) (by kernel_rfl) trivial ?_
              refine AOps_end ?_
              refine athen_n ?_
              refine AT_seq ?_
              refine AT_region ?_
              refine AOps_seg 2 0x10 (mkS 15 [(4, bo true)]) none [] (by kernel_rfl) (by kernel_rfl) trivial ?_
              refine AOps_end ?_
              refine athen_n ?_
              refine AT_ret ?_
              have e_ := Option.some.inj h
              subst e_
              exact ⟨[bo true], bo true, S, (.of (by kernel_rfl)), D.le.refl _, hB109, rfl, rfl⟩
            rw [if_f hc112] at h
            refine AOps_lookup (dsc := .int .i64) (es := [(.int .i64 0, .ag [.fn (.func 24) [] [.pt [i64 a0]], .fn (.func 26) [] [.pt [i64 a0]]]), (.int .i64 1, .ag [.fn (.func 28) [] [.pt [i64 a0]], .fn (.func 30) [] [.pt [i64 a0]]]), (.int .i64 3, .ag [.fn (.func 85) [] [.pt [.fn (.func 46) [] []], .pt [.fn (.func 45) [] []]], .fn (.func 87) [] [.pt [.fn (.func 47) [] []], .pt [.fn (.func 48) [] []]]])]) (res := none) (zd := .ag [.lit .nilFunc, .lit .nilFunc]) (tl_get rfl) rfl rfl rfl rfl rfl at108 rfl rfl (by intro x hx; simp only [List.mem_cons, List.not_mem_nil, or_false] at hx; rcases hx with rfl | rfl | rfl <;> exact rfl) (.miss (int_ne (beq_ne hc110)) (.miss (int_ne (beq_ne hc111)) (.miss (int_ne (beq_ne hc112)) (.nil)))) (by kernel_rfl) ?_
            refine AOps_forget 0x800 (mkS 15 [(11, .tup [.ag [.lit .nilFunc, .lit .nilFunc], bo false])]) (by kernel_rfl) ?_
            refine AOps_seg 3 0x3000 (mkS 15 [(12, .ag [.lit .nilFunc, .lit .nilFunc]), (13, bo false)]) none [7, 8, 9] (by kernel_rfl) (by kernel_rfl) trivial ?_
            refine AOps_newvar (zs := [.lit .nilFunc, .lit .nilFunc]) (ds := [.lit .nilFunc, .lit .nilFunc]) (d := 5) (tl_get rfl) rfl rfl rfl (by kernel_rfl) (by kernel_rfl) (tl_get rfl) (fun _ => rfl) rfl rfl (fun _ => rfl) rfl (by kernel_rfl) (by kernel_rfl) ?_
            refine AOps_forget 0x2020 (mkS 15 [(5, .pt [.lit .nilFunc, .lit .nilFunc]), (13, bo false)]) (by kernel_rfl) ?_
            refine AOps_seg 1 0x40 (mkS 15 [(6, bo false)]) none [] (by kernel_rfl) (by kernel_rfl) trivial ?_
            refine AOps_end ?_
            refine athen_n ?_
            refine AT_seq ?_
            refine AT_region ?_
            refine AOps_seg 2 0x10 (mkS 15 [(4, bo false)]) none [] (by kernel_rfl) (by kernel_rfl) trivial ?_
            refine AOps_end ?_
            refine athen_n ?_
            refine AT_ret ?_
            have e_ := Option.some.inj h
            subst e_
            exact ⟨[bo false], bo false, S, (.of (by kernel_rfl)), D.le.refl _, hB109, rfl, rfl⟩
          · rw [if_f hc90] at h
            refine AT_seq ?_
            refine AT_region ?_
            refine AOps_seg 2 0x8000000020 (mkS 44 [(5, .mp m4), (39, bo (a0 == 2))]) none [] (by kernel_rfl) (by kernel_rfl) trivial ?_
            refine AOps_end ?_
            refine athen_n ?_
            refine AT_condS (a0 == 2) (by kernel_rfl) (fun hc113 => ?_) (fun hc113 => ?_)
            · rw [if_t hc113] at h
              refine AT_region ?_
              refine AOps_seg 1 0x20000000020 (mkS 44 [(5, .mp m4), (41, .mp m4)]) none [1, 2] (by kernel_rfl) (by kernel_rfl) trivial ?_
              refine AOps_inline [.fn (.func 50) [] [], .fn (.func 51) [] [], .fn (.func 52) [] [], .fn (.func 53) [] []] (tl_get rfl) rfl rfl rfl (by kernel_rfl) Tryz.func49 (by decide) rfl rfl ?_
              refine AT_forget 0xf (mkS 12 [(0, .fn (.func 50) [] []), (1, .fn (.func 51) [] []), (2, .fn (.func 52) [] []), (3, .fn (.func 53) [] [])]) (by kernel_rfl) ?_
              refine AT_seq ?_
              refine AT_region ?_
              refine AOps_box_im (ds := [.fn (.func 50) [] []]) (tl_get rfl) rfl rfl (by kernel_rfl) ?_
              refine AOps_forget 0x1e (mkS 12 [(1, .fn (.func 51) [] []), (2, .fn (.func 52) [] []), (3, .fn (.func 53) [] []), (4, .pt [.fn (.func 50) [] []])]) (by kernel_rfl) ?_
              refine AOps_box_im (ds := [.fn (.func 51) [] []]) (tl_get rfl) rfl rfl (by kernel_rfl) ?_
              refine AOps_forget 0x3c (mkS 12 [(2, .fn (.func 52) [] []), (3, .fn (.func 53) [] []), (4, .pt [.fn (.func 50) [] []]), (5, .pt [.fn (.func 51) [] []])]) (by kernel_rfl) ?_
              refine AOps_box_im (ds := [.fn (.func 52) [] []]) (tl_get rfl) rfl rfl (by kernel_rfl) ?_
              refine AOps_forget 0x78 (mkS 12 [(3, .fn (.func 53) [] []), (4, .pt [.fn (.func 50) [] []]), (5, .pt [.fn (.func 51) [] []]), (6, .pt [.fn (.func 52) [] []])]) (by kernel_rfl) ?_
              refine AOps_box_im (ds := [.fn (.func 53) [] []]) (tl_get rfl) rfl rfl (by kernel_rfl) ?_
              refine AOps_forget 0xf0 (mkS 12 [(4, .pt [.fn (.func 50) [] []]), (5, .pt [.fn (.func 51) [] []]), (6, .pt [.fn (.func 52) [] []]), (7, .pt [.fn (.func 53) [] []])]) (by kernel_rfl) ?_
              refine AOps_allocU (ds := [.lit .nilFunc, .lit .nilFunc]) (tl_get rfl) rfl rfl (by kernel_rfl) (fun S114 m115 hf117 u116 => ?_)
              have ff118 := fresh_leO hB17 hf117
              have ne119 := ne_of_freshO at16 hf117
              have at120 := u116.ob at16 ne119
              have at121 : Store.ob S114 m115 = some (.cells 49 [.lit .nilFunc, .lit .nilFunc]) := u116.at_.trans (by kernel_rfl)
              have hB122 := u116.le hB17 ff118
              refine AOps_forget 0x1f0 (mkS 12 [(4, .pt [.fn (.func 50) [] []]), (5, .pt [.fn (.func 51) [] []]), (6, .pt [.fn (.func 52) [] []]), (7, .pt [.fn (.func 53) [] []]), (8, .ob m115 0)]) (by kernel_rfl) ?_
              refine AOps_end ?_
              refine athen_n ?_
              refine AT_seq ?_
              refine AT_region ?_
              refine AOps_seg 3 0x900 (mkS 12 [(8, .ob m115 0), (11, .ag [.fn (.func 95) [] [.pt [.fn (.func 51) [] []], .pt [.fn (.func 50) [] []]], .fn (.func 97) [] [.pt [.fn (.func 52) [] []], .pt [.fn (.func 53) [] []]]])]) none [3] (by kernel_rfl) (by kernel_rfl) trivial ?_
              refine AOps_putU (T := 49) (off := 0) (cs := [.lit .nilFunc, .lit .nilFunc]) (ds := [.fn (.func 95) [] [.pt [.fn (.func 51) [] []], .pt [.fn (.func 50) [] []]], .fn (.func 97) [] [.pt [.fn (.func 52) [] []], .pt [.fn (.func 53) [] []]]]) (cs' := [.fn (.func 95) [] [.pt [.fn (.func 51) [] []], .pt [.fn (.func 50) [] []]], .fn (.func 97) [] [.pt [.fn (.func 52) [] []], .pt [.fn (.func 53) [] []]]]) (tl_get rfl) rfl rfl rfl at121 rfl (by kernel_rfl) (by decide) rfl (fun S123 u124 => ?_)
              have at125 := u124.ob at120 ne119
              have at126 : Store.ob S123 m115 = some (.cells 49 [.fn (.func 95) [] [.pt [.fn (.func 51) [] []], .pt [.fn (.func 50) [] []]], .fn (.func 97) [] [.pt [.fn (.func 52) [] []], .pt [.fn (.func 53) [] []]]]) := u124.at_.trans (by kernel_rfl)
              have hB127 := u124.le hB122 ff118
              refine AOps_forget 0x100 (mkS 12 [(8, .ob m115 0)]) (by kernel_rfl) ?_
              refine AOps_end ?_
              refine athen_n ?_
              refine AT_ret ?_
              refine ⟨[.ag [.fn (.func 95) [] [.pt [.fn (.func 51) [] []], .pt [.fn (.func 50) [] []]], .fn (.func 97) [] [.pt [.fn (.func 52) [] []], .pt [.fn (.func 53) [] []]]]], .ag [.fn (.func 95) [] [.pt [.fn (.func 51) [] []], .pt [.fn (.func 50) [] []]], .fn (.func 97) [] [.pt [.fn (.func 52) [] []], .pt [.fn (.func 53) [] []]]], S123, (.ob (o := 0) (by kernel_rfl) at126 (.inl ⟨by kernel_rfl, 2, by kernel_rfl, by decide, by kernel_rfl⟩) (.nil)), D.le.refl _, Store.le.refl _, ?_⟩
              refine AOps_forget 0x60000000020 (mkS 44 [(5, .mp m4), (41, .mp m4), (42, .ag [.fn (.func 95) [] [.pt [.fn (.func 51) [] []], .pt [.fn (.func 50) [] []]], .fn (.func 97) [] [.pt [.fn (.func 52) [] []], .pt [.fn (.func 53) [] []]]])]) (by kernel_rfl) ?_
              refine AOps_insertU (dsc := .int .i64) (es := [(.int .i64 0, .ag [.fn (.func 24) [] [.pt [i64 a0]], .fn (.func 26) [] [.pt [i64 a0]]]), (.int .i64 1, .ag [.fn (.func 28) [] [.pt [i64 a0]], .fn (.func 30) [] [.pt [i64 a0]]])]) (kv := .int .i64 4) (tl_get rfl) rfl (by first | exact .inl rfl | exact .inr rfl) rfl rfl rfl at125 rfl rfl (by intro x hx; simp only [List.mem_cons, List.not_mem_nil, or_false] at hx; rcases hx with rfl | rfl <;> exact rfl) (.miss (int_ne (by decide)) (.miss (int_ne (by decide)) (.nil))) (fun S128 u129 => ?_)
              have at130 := u129.ob at126 ne119.symm
              have at131 : Store.ob S128 m4 = some (mapO [(.int .i64 0, .ag [.fn (.func 24) [] [.pt [i64 a0]], .fn (.func 26) [] [.pt [i64 a0]]]), (.int .i64 1, .ag [.fn (.func 28) [] [.pt [i64 a0]], .fn (.func 30) [] [.pt [i64 a0]]]), (.int .i64 4, .ag [.fn (.func 95) [] [.pt [.fn (.func 51) [] []], .pt [.fn (.func 50) [] []]], .fn (.func 97) [] [.pt [.fn (.func 52) [] []], .pt [.fn (.func 53) [] []]]])]) := u129.at_.trans (by kernel_rfl)
              have hB132 := u129.le hB127 ff7
              refine AOps_forget 0x20 (mkS 44 [(5, .mp m4)]) (by kernel_rfl) ?_
              refine AOps_end ?_
              refine ablock_n ?_
              refine athen_n ?_
              refine AT_seq ?_
              refine AT_region ?_
              refine AOps_seg 2 0x4 (mkS 44 [(2, .mp m4)]) none [] (by kernel_rfl) (by kernel_rfl) trivial ?_
              refine AOps_end ?_
              refine athen_n ?_
              refine AT_ret ?_
              refine ⟨[.mp m4], .mp m4, S128, (.of (by kernel_rfl)), D.le.refl _, Store.le.refl _, ?_⟩
              refine AOps_forget 0x202 (mkS 15 [(1, i64 a1), (9, .mp m4)]) (by kernel_rfl) ?_
              refine AOps_seg 1 0x600 (mkS 15 [(9, .mp m4), (10, i64 a1)]) none [3, 4, 5, 6, 7, 8, 9] (by kernel_rfl) (by kernel_rfl) trivial ?_
              cases hc133 : (a1 == 0)
              rotate_left
              · rw [if_t hc133] at h
                refine AOps_lookup (dsc := .int .i64) (es := [(.int .i64 0, .ag [.fn (.func 24) [] [.pt [i64 a0]], .fn (.func 26) [] [.pt [i64 a0]]]), (.int .i64 1, .ag [.fn (.func 28) [] [.pt [i64 a0]], .fn (.func 30) [] [.pt [i64 a0]]]), (.int .i64 4, .ag [.fn (.func 95) [] [.pt [.fn (.func 51) [] []], .pt [.fn (.func 50) [] []]], .fn (.func 97) [] [.pt [.fn (.func 52) [] []], .pt [.fn (.func 53) [] []]]])]) (res := some (.ag [.fn (.func 24) [] [.pt [i64 a0]], .fn (.func 26) [] [.pt [i64 a0]]])) (zd := .ag [.lit .nilFunc, .lit .nilFunc]) (tl_get rfl) rfl rfl rfl rfl rfl at131 rfl rfl (by intro x hx; simp only [List.mem_cons, List.not_mem_nil, or_false] at hx; rcases hx with rfl | rfl | rfl <;> exact rfl) (by rw [eq_of_beq hc133]; exact .hit _ _) (by kernel_rfl) ?_
                refine AOps_forget 0x800 (mkS 15 [(11, .tup [.ag [.fn (.func 24) [] [.pt [i64 a0]], .fn (.func 26) [] [.pt [i64 a0]]], bo true])]) (by kernel_rfl) ?_
                refine AOps_seg 3 0x3000 (mkS 15 [(12, .ag [.fn (.func 24) [] [.pt [i64 a0]], .fn (.func 26) [] [.pt [i64 a0]]]), (13, bo true)]) none [7, 8, 9] (by kernel_rfl) (by kernel_rfl) trivial ?_
                refine AOps_newvar (zs := [.lit .nilFunc, .lit .nilFunc]) (ds := [.fn (.func 24) [] [.pt [i64 a0]], .fn (.func 26) [] [.pt [i64 a0]]]) (d := 5) (tl_get rfl) rfl rfl rfl (by kernel_rfl) (by kernel_rfl) (tl_get rfl) (fun _ => rfl) rfl rfl (fun _ => rfl) rfl (by kernel_rfl) (by kernel_rfl) ?_
                refine AOps_forget 0x2020 (mkS 15 [(5, .pt [.fn (.func 24) [] [.pt [i64 a0]], .fn (.func 26) [] [.pt [i64 a0]]]), (13, bo true)]) (by kernel_rfl) ?_
                refine AOps_seg 1 0x40 (mkS 15 [(6, bo true)]) none [] (by kernel_rfl) (by kernel_rfl) trivial ?_
                refine AOps_end ?_
                refine athen_n ?_
                refine AT_seq ?_
                refine AT_region ?_
                refine AOps_seg 2 0x10 (mkS 15 [(4, bo true)]) none [] (by kernel_rfl) (by kernel_rfl) trivial ?_
                refine AOps_end ?_
                refine athen_n ?_
                refine AT_ret ?_
                have e_ := Option.some.inj h
                subst e_
                exact ⟨[bo true], bo true, S, (.of (by kernel_rfl)), D.le.refl _, hB132, rfl, rfl⟩
              rw [if_f hc133] at h
              cases hc134 : (a1 == 1)
              rotate_left
              · rw [if_t hc134] at h
                refine AOps_lookup (dsc := .int .i64) (es := [(.int .i64 0, .ag [.fn (.func 24) [] [.pt [i64 a0]], .fn (.func 26) [] [.pt [i64 a0]]]), (.int .i64 1, .ag [.fn (.func 28) [] [.pt [i64 a0]], .fn (.func 30) [] [.pt [i64 a0]]]), (.int .i64 4, .ag [.fn (.func 95) [] [.pt [.fn (.func 51) [] []], .pt [.fn (.func 50) [] []]], .fn (.func 97) [] [.pt [.fn (.func 52) [] []], .pt [.fn (.func 53) [] []]]])]) (res := some (.ag [.fn (.func 28) [] [.pt [i64 a0]], .fn (.func 30) [] [.pt [i64 a0]]])) (zd := .ag [.lit .nilFunc, .lit .nilFunc]) (tl_get rfl) rfl rfl rfl rfl rfl at131 rfl rfl (by intro x hx; simp only [List.mem_cons, List.not_mem_nil, or_false] at hx; rcases hx with rfl | rfl | rfl <;> exact rfl) (by rw [eq_of_beq hc134]; exact .miss (int_ne (by decide)) (.hit _ _)) (by kernel_rfl) ?_
                refine AOps_forget 0x800 (mkS 15 [(11, .tup [.ag [.fn (.func 28) [] [.pt [i64 a0]], .fn (.func 30) [] [.pt [i64 a0]]], bo true])]) (by kernel_rfl) ?_
                refine AOps_seg 3 0x3000 (mkS 15 [(12, .ag [.fn (.func 28) [] [.pt [i64 a0]], .fn (.func 30) [] [.pt [i64 a0]]]), (13, bo true)]) none [7, 8, 9] (by kernel_rfl) (by kernel_rfl) trivial ?_
                refine AOps_newvar (zs := [.lit .nilFunc, .lit .nilFunc]) (ds := [.fn (.func 28) [] [.pt [i64 a0]], .fn (.func 30) [] [.pt [i64 a0]]]) (d := 5) (tl_get rfl) rfl rfl rfl (by kernel_rfl) (by kernel_rfl) (tl_get rfl) (fun _ => rfl) rfl rfl (fun _ => rfl) rfl (by kernel_rfl) (by kernel_rfl) ?_
                refine AOps_forget 0x2020 (mkS 15 [(5, .pt [.fn (.func 28) [] [.pt [i64 a0]], .fn (.func 30) [] [.pt [i64 a0]]]), (13, bo true)]) (by kernel_rfl) ?_
                refine AOps_seg 1 0x40 (mkS 15 [(6, bo true)]) none [] (by kernel_rfl) (by kernel_rfl) trivial ?_
                refine AOps_end ?_
                refine athen_n ?_
                refine AT_seq ?_
                refine AT_region ?_
                refine AOps_seg 2 0x10 (mkS 15 [(4, bo true)]) none [] (by kernel_rfl) (by kernel_rfl) trivial ?_
                refine AOps_end ?_
                refine athen_n ?_
                refine AT_ret ?_
                have e_ := Option.some.inj h
                subst e_
                exact ⟨[bo true], bo true, S, (.of (by kernel_rfl)), D.le.refl _, hB132, rfl, rfl⟩
              rw [if_f hc134] at h
              cases hc135 : (a1 == 4)
              rotate_left
              · rw [if_t hc135] at h
                refine AOps_lookup (dsc := .int .i64) (es := [(.int .i64 0, .ag [.fn (.func 24) [] [.pt [i64 a0]], .fn (.func 26) [] [.pt [i64 a0]]]), (.int .i64 1, .ag [.fn (.func 28) [] [.pt [i64 a0]], .fn (.func 30) [] [.pt [i64 a0]]]), (.int .i64 4, .ag [.fn (.func 95) [] [.pt [.fn (.func 51) [] []], .pt [.fn (.func 50) [] []]], .fn (.func 97) [] [.pt [.fn (.func 52) [] []], .pt [.fn (.func 53) [] []]]])]) (res := some (.ag [.fn (.func 95) [] [.pt [.fn (.func 51) [] []], .pt [.fn (.func 50) [] []]], .fn (.func 97) [] [.pt [.fn (.func 52) [] []], .pt [.fn (.func 53) [] []]]])) (zd := .ag [.lit .nilFunc, .lit .nilFunc]) (tl_get rfl) rfl rfl rfl rfl rfl at131 rfl rfl (by intro x hx; simp only [List.mem_cons, List.not_mem_nil, or_false] at hx; rcases hx with rfl | rfl | rfl <;> exact rfl) (by rw [eq_of_beq hc135]; exact .miss (int_ne (by decide)) (.miss (int_ne (by decide)) (.hit _ _))) (by kernel_rfl) ?_
                refine AOps_forget 0x800 (mkS 15 [(11, .tup [.ag [.fn (.func 95) [] [.pt [.fn (.func 51) [] []], .pt [.fn (.func 50) [] []]], .fn (.func 97) [] [.pt [.fn (.func 52) [] []], .pt [.fn (.func 53) [] []]]], bo true])]) (by kernel_rfl) ?_
                refine AOps_seg 3 0x3000 (mkS 15 [(12, .ag [.fn (.func 95) [] [.pt [.fn (.func 51) [] []], .pt [.fn (.func 50) [] []]], .fn (.func 97) [] [.pt [.fn (.func 52) [] []], .pt [.fn (.func 53) [] []]]]), (13, bo true)]) none [7, 8, 9] (by kernel_rfl) (by kernel_rfl) trivial ?_
                refine AOps_newvar (zs := [.lit .nilFunc, .lit .nilFunc]) (ds := [.fn (.func 95) [] [.pt [.fn (.func 51) [] []], .pt [.fn (.func 50) [] []]], .fn (.func 97) [] [.pt [.fn (.func 52) [] []], .pt [.fn (.func 53) [] []]]]) (d := 5) (tl_get rfl) rfl rfl rfl (by kernel_rfl) (by kernel_rfl) (tl_get rfl) (fun _ => rfl) rfl rfl (fun _ => rfl) rfl (by kernel_rfl) (by kernel_rfl) ?_
                refine AOps_forget 0x2020 (mkS 15 [(5, .pt [.fn (.func 95) [] [.pt [.fn (.func 51) [] []], .pt [.fn (.func 50) [] []]], .fn (.func 97) [] [.pt [.fn (.func 52) [] []], .pt [.fn (.func 53) [] []]]]), (13, bo true)]) (by kernel_rfl) ?_
                refine AOps_seg 1 0x40 (mkS 15 [(6, bo true)]) none [] (by kernel_rfl) (by kernel_rfl) trivial ?_
                refine AOps_end ?_
                refine athen_n ?_
                refine AT_seq ?_
                refine AT_region ?_
                refine AOps_seg 2 0x10 (mkS 15 [(4, bo true)]) none [] (by kernel_rfl) (by kernel_rfl) trivial ?_
                refine AOps_end ?_
                refine athen_n ?_
                refine AT_ret ?_
                have e_ := Option.some.inj h
                subst e_
                exact ⟨[bo true], bo true, S, (.of (by kernel_rfl)), D.le.refl _, hB132, rfl, rfl⟩
              rw [if_f hc135] at h
              refine AOps_lookup (dsc := .int .i64) (es := [(.int .i64 0, .ag [.fn (.func 24) [] [.pt [i64 a0]], .fn (.func 26) [] [.pt [i64 a0]]]), (.int .i64 1, .ag [.fn (.func 28) [] [.pt [i64 a0]], .fn (.func 30) [] [.pt [i64 a0]]]), (.int .i64 4, .ag [.fn (.func 95) [] [.pt [.fn (.func 51) [] []], .pt [.fn (.func 50) [] []]], .fn (.func 97) [] [.pt [.fn (.func 52) [] []], .pt [.fn (.func 53) [] []]]])]) (res := none) (zd := .ag [.lit .nilFunc, .lit .nilFunc]) (tl_get rfl) rfl rfl rfl rfl rfl at131 rfl rfl (by intro x hx; simp only [List.mem_cons, List.not_mem_nil, or_false] at hx; rcases hx with rfl | rfl | rfl <;> exact rfl) (.miss (int_ne (beq_ne hc133)) (.miss (int_ne (beq_ne hc134)) (.miss (int_ne (beq_ne hc135)) (.nil)))) (by kernel_rfl) ?_
              refine AOps_forget 0x800 (mkS 15 [(11, .tup [.ag [.lit .nilFunc, .lit .nilFunc], bo false])]) (by kernel_rfl) ?_
              refine AOps_seg 3 0x3000 (mkS 15 [(12, .ag [.lit .nilFunc, .lit .nilFunc]), (13, bo false)]) none [7, 8, 9] (by kernel_rfl) (by kernel_rfl) trivial ?_
              refine AOps_newvar (zs := [.lit .nilFunc, .lit .nilFunc]) (ds := [.lit .nilFunc, .lit .nilFunc]) (d := 5) (tl_get rfl) rfl rfl rfl (by kernel_rfl) (by kernel_rfl) (tl_get rfl) (fun _ => rfl) rfl rfl (fun _ => rfl) rfl (by kernel_rfl) (by kernel_rfl) ?_
              refine AOps_forget 0x2020 (mkS 15 [(5, .pt [.lit .nilFunc, .lit .nilFunc]), (13, bo false)]) (by kernel_rfl) ?_
              refine AOps_seg 1 0x40 (mkS 15 [(6, bo false)]) none [] (by kernel_rfl) (by kernel_rfl) trivial ?_
              refine AOps_end ?_
              refine athen_n ?_
              refine AT_seq ?_
              refine AT_region ?_
              refine AOps_seg 2 0x10 (mkS 15 [(4, bo false)]) none [] (by kernel_rfl) (by kernel_rfl) trivial ?_
              refine AOps_end ?_
              refine athen_n ?_
              refine AT_ret ?_
              have e_ := Option.some.inj h
              subst e_
              exact ⟨[bo false], bo false, S, (.of (by kernel_rfl)), D.le.refl _, hB132, rfl, rfl⟩
            · rw [if_f hc113] at h
              refine AT_skip ?_
              refine ablock_n ?_
              refine athen_n ?_
              refine AT_seq ?_
              refine AT_region ?_
              refine AOps_seg 2 0x4 (mkS 44 [(2, .mp m4)]) none [] (by kernel_rfl) (by kernel_rfl) trivial ?_
              refine AOps_end ?_
              refine athen_n ?_
              refine AT_ret ?_
              refine ⟨[.mp m4], .mp m4, S14, (.of (by kernel_rfl)), D.le.refl _, Store.le.refl _, ?_⟩
              refine AOps_forget 0x202 (mkS 15 [(1, i64 a1), (9, .mp m4)]) (by kernel_rfl) ?_
              refine AOps_seg 1 0x600 (mkS 15 [(9, .mp m4), (10, i64 a1)]) none [3, 4, 5, 6, 7, 8, 9] (by kernel_rfl) (by kernel_rfl) trivial ?_
              cases hc136 : (a1 == 0)
              rotate_left
              · rw [if_t hc136] at h
                refine AOps_lookup (dsc := .int .i64) (es := [(.int .i64 0, .ag [.fn (.func 24) [] [.pt [i64 a0]], .fn (.func 26) [] [.pt [i64 a0]]]), (.int .i64 1, .ag [.fn (.func 28) [] [.pt [i64 a0]], .fn (.func 30) [] [.pt [i64 a0]]])]) (res := some (.ag [.fn (.func 24) [] [.pt [i64 a0]], .fn (.func 26) [] [.pt [i64 a0]]])) (zd := .ag [.lit .nilFunc, .lit .nilFunc]) (tl_get rfl) rfl rfl rfl rfl rfl at16 rfl rfl (by intro x hx; simp only [List.mem_cons, List.not_mem_nil, or_false] at hx; rcases hx with rfl | rfl <;> exact rfl) (by rw [eq_of_beq hc136]; exact .hit _ _) (by kernel_rfl) ?_
                refine AOps_forget 0x800 (mkS 15 [(11, .tup [.ag [.fn (.func 24) [] [.pt [i64 a0]], .fn (.func 26) [] [.pt [i64 a0]]], bo true])]) (by kernel_rfl) ?_
                refine AOps_seg 3 0x3000 (mkS 15 [(12, .ag [.fn (.func 24) [] [.pt [i64 a0]], .fn (.func 26) [] [.pt [i64 a0]]]), (13, bo true)]) none [7, 8, 9] (by kernel_rfl) (by kernel_rfl) trivial ?_
                refine AOps_newvar (zs := [.lit .nilFunc, .lit .nilFunc]) (ds := [.fn (.func 24) [] [.pt [i64 a0]], .fn (.func 26) [] [.pt [i64 a0]]]) (d := 5) (tl_get rfl) rfl rfl rfl (by kernel_rfl) (by kernel_rfl) (tl_get rfl) (fun _ => rfl) rfl rfl (fun _ => rfl) rfl (by kernel_rfl) (by kernel_rfl) ?_
                refine AOps_forget 0x2020 (mkS 15 [(5, .pt [.fn (.func 24) [] [.pt [i64 a0]], .fn (.func 26) [] [.pt [i64 a0]]]), (13, bo true)]) (by kernel_rfl) ?_
                refine AOps_seg 1 0x40 (mkS 15 [(6, bo true)]) none [] (by kernel_rfl) (by kernel_rfl) trivial ?_
                refine AOps_end ?_
                refine athen_n ?_
                refine AT_seq ?_
                refine AT_region ?_
                refine AOps_seg 2 0x10 (mkS 15 [(4, bo true)]) none [] (by kernel_rfl) (by kernel_rfl) trivial ?_
                refine AOps_end ?_
                refine athen_n ?_
                refine AT_ret ?_
                have e_ := Option.some.inj h
                subst e_
                exact ⟨[bo true], bo true, S, (.of (by kernel_rfl)), D.le.refl _, hB17, rfl, rfl⟩
              rw [if_f hc136] at h
              cases hc137 : (a1 == 1)
              rotate_left
              · rw [if_t hc137] at h
                refine AOps_lookup (dsc := .int .i64) (es := [(.int .i64 0, .ag [.fn (.func 24) [] [.pt [i64 a0]], .fn (.func 26) [] [.pt [i64 a0]]]), (.int .i64 1, .ag [.fn (.func 28) [] [.pt [i64 a0]], .fn (.func 30) [] [.pt [i64 a0]]])]) (res := some (.ag [.fn (.func 28) [] [.pt [i64 a0]], .fn (.func 30) [] [.pt [i64 a0]]])) (zd := .ag [.lit .nilFunc, .lit .nilFunc]) (tl_get rfl) rfl rfl rfl rfl rfl at16 rfl rfl (by intro x hx; simp only [List.mem_cons, List.not_mem_nil, or_false] at hx; rcases hx with rfl | rfl <;> exact rfl) (by rw [eq_of_beq hc137]; exact .miss (int_ne (by decide)) (.hit _ _)) (by kernel_rfl) ?_
                refine AOps_forget 0x800 (mkS 15 [(11, .tup [.ag [.fn (.func 28) [] [.pt [i64 a0]], .fn (.func 30) [] [.pt [i64 a0]]], bo true])]) (by kernel_rfl) ?_
                refine AOps_seg 3 0x3000 (mkS 15 [(12, .ag [.fn (.func 28) [] [.pt [i64 a0]], .fn (.func 30) [] [.pt [i64 a0]]]), (13, bo true)]) none [7, 8, 9] (by kernel_rfl) (by kernel_rfl) trivial ?_
                refine AOps_newvar (zs := [.lit .nilFunc, .lit .nilFunc]) (ds := [.fn (.func 28) [] [.pt [i64 a0]], .fn (.func 30) [] [.pt [i64 a0]]]) (d := 5) (tl_get rfl) rfl rfl rfl (by kernel_rfl) (by kernel_rfl) (tl_get rfl) (fun _ => rfl) rfl rfl (fun _ => rfl) rfl (by kernel_rfl) (by kernel_rfl) ?_
                refine AOps_forget 0x2020 (mkS 15 [(5, .pt [.fn (.func 28) [] [.pt [i64 a0]], .fn (.func 30) [] [.pt [i64 a0]]]), (13, bo true)]) (by kernel_rfl) ?_
                refine AOps_seg 1 0x40 (mkS 15 [(6, bo true)]) none [] (by kernel_rfl) (by kernel_rfl) trivial ?_
                refine AOps_end ?_
                refine athen_n ?_
                refine AT_seq ?_
                refine AT_region ?_
                refine AOps_seg 2 0x10 (mkS 15 [(4, bo true)]) none [] (by kernel_rfl) (by kernel_rfl) trivial ?_
                refine AOps_end ?_
                refine athen_n ?_
                refine AT_ret ?_
                have e_ := Option.some.inj h
                subst e_
                exact ⟨[bo true], bo true, S, (.of (by kernel_rfl)), D.le.refl _, hB17, rfl, rfl⟩
              rw [if_f hc137] at h
              refine AOps_lookup (dsc := .int .i64) (es := [(.int .i64 0, .ag [.fn (.func 24) [] [.pt [i64 a0]], .fn (.func 26) [] [.pt [i64 a0]]]), (.int .i64 1, .ag [.fn (.func 28) [] [.pt [i64 a0]], .fn (.func 30) [] [.pt [i64 a0]]])]) (res := none) (zd := .ag [.lit .nilFunc, .lit .nilFunc]) (tl_get rfl) rfl rfl rfl rfl rfl at16 rfl rfl (by intro x hx; simp only [List.mem_cons, List.not_mem_nil, or_false] at hx; rcases hx with rfl | rfl <;> exact rfl) (.miss (int_ne (beq_ne hc136)) (.miss (int_ne (beq_ne hc137)) (.nil))) (by kernel_rfl) ?_
              refine AOps_forget 0x800 (mkS 15 [(11, .tup [.ag [.lit .nilFunc, .lit .nilFunc], bo false])]) (by kernel_rfl) ?_
              refine AOps_seg 3 0x3000 (mkS 15 [(12, .ag [.lit .nilFunc, .lit .nilFunc]), (13, bo false)]) none [7, 8, 9] (by kernel_rfl) (by kernel_rfl) trivial ?_
              refine AOps_newvar (zs := [.lit .nilFunc, .lit .nilFunc]) (ds := [.lit .nilFunc, .lit .nilFunc]) (d := 5) (tl_get rfl) rfl rfl rfl (by kernel_rfl) (by kernel_rfl) (tl_get rfl) (fun _ => rfl) rfl rfl (fun _ => rfl) rfl (by kernel_rfl) (by kernel_rfl) ?_
              refine AOps_forget 0x2020 (mkS 15 [(5, .pt [.lit .nilFunc, .lit .nilFunc]), (13, bo false)]) (by kernel_rfl) ?_
              refine AOps_seg 1 0x40 (mkS 15 [(6, bo false)]) none [] (by kernel_rfl) (by kernel_rfl) trivial ?_
              refine AOps_end ?_
              refine athen_n ?_
              refine AT_seq ?_
              refine AT_region ?_
              refine AOps_seg 2 0x10 (mkS 15 [(4, bo false)]) none [] (by kernel_rfl) (by kernel_rfl) trivial ?_
              refine AOps_end ?_
              refine athen_n ?_
              refine AT_ret ?_
              have e_ := Option.some.inj h
              subst e_
              exact ⟨[bo false], bo false, S, (.of (by kernel_rfl)), D.le.refl _, hB17, rfl, rfl⟩
end Go.Proofs.YtjapfalijpfmpaaGreatDoor.Abs
