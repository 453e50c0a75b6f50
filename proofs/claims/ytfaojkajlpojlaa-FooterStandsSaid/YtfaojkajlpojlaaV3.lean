/- What functions of the program compute, each with the proof that it does (printed by wip/gen/all2.py). -/
import Derived.Test.YtfaojkajlpojlaaV2
import Derived.KernelRfl
namespace Go.Proofs.Ytfaojkajlpojlaa.Abs
open Go
set_option maxRecDepth 100000
def slices_Grow_byte.f (a0 : List UInt8) (a1 : Int) : Option (List UInt8) := if 0 ≤ a1 ∧ ((a0.length : Int) + a1) * 1 ≤ 140737488355328 then some a0 else none
theorem slices_Grow_byte.ok (a0 : List UInt8) (a1 : Int) (S : Store) (B : List (Bool × Nat)) (t0 : Nat) (hh : Own S B S [.t t0 (a0).length 1]) (r : List UInt8) (h : slices_Grow_byte.f a0 a1 = some r) : ACalls Try.prog 30 [.sl 1 (a0.map eB) (some t0), i64 a1] S (fun r_ S_ => ∃ (u0 : Nat), r_ = .sl 1 (r.map eB) (some u0) ∧ Own S B S_ [.t u0 (r).length 1]) := by
  rw [slices_Grow_byte.f] at h
  by_cases hc_ : 0 ≤ a1 ∧ ((a0.length : Int) + a1) * 1 ≤ 140737488355328
  rotate_left
  · rw [if_neg hc_] at h; cases h
  rw [if_pos hc_] at h
  have e_ := Option.some.inj h
  subst e_
  refine acalls_of Try.func30 rfl ?_
  refine AT_forget 0x3 (mkS 27 [(0, .sl 1 (a0.map eB) (some t0)), (1, i64 a1)]) (by kernel_rfl) ?_
  have hlen_ : (a0.map eB).length = a0.length := List.length_map _
  refine AT_know (sz := 1) (tk := t0) (es := (a0.map eB)) 0 (by kernel_rfl) (by rw [hlen_]; exact hh.tk 0 (by kernel_rfl)) (by rw [hlen_]; omega) (fun c hc1 hc2 => ?_)
  refine AT_to (mkS 27 [(0, .cap c (.sl 1 (a0.map eB) (some t0))), (1, i64 a1)]) (by kernel_rfl) ?_
  have hx_ : IntKind.wrap .i64 (a1 - IntKind.wrap .i64 ((c : Int) - ((a0.map eB).length : Int))) = (a0.length : Int) + a1 - c := by rw [hlen_] at hc1 ⊢; rw [IntWalk.i64_in ((c : Int) - a0.length) ⟨by omega, by omega⟩, IntWalk.i64_in _ ⟨by omega, by omega⟩]; omega
  refine AT_seq ?_
  refine AT_region ?_
  refine AOps_seg 1 0x3 (mkS 27 [(0, .cap c (.sl 1 (a0.map eB) (some t0))), (1, i64 a1)]) none [] (by kernel_rfl) (by kernel_rfl) trivial ?_
  refine AOps_end ?_
  refine athen_n ?_
  refine AT_seq ?_
  refine AT_seq ?_
  refine AT_region ?_
  refine AOps_seg 2 0x43 (mkS 27 [(0, .cap c (.sl 1 (a0.map eB) (some t0))), (1, i64 a1), (6, bo (decide (a1 < 0)))]) none [] (by kernel_rfl) (by kernel_rfl) trivial ?_
  refine AOps_end ?_
  refine athen_n ?_
  refine AT_condS (decide (a1 < 0)) (by kernel_rfl) (fun hk => absurd (of_decide_eq_true hk) (by omega)) (fun _ => ?_)
  refine AT_skip ?_
  refine athen_n ?_
  refine AT_seq ?_
  refine AT_seq ?_
  refine AT_region ?_
  refine AOps_seg 2 0x303 (mkS 27 [(0, .cap c (.sl 1 (a0.map eB) (some t0))), (1, i64 a1), (8, i64 a1), (9, .cap c (.sl 1 (a0.map eB) (some t0)))]) none [2, 3, 4, 5, 6, 7] (by kernel_rfl) (by kernel_rfl) trivial ?_
  refine AOps_cap (e := 5) (tl_get rfl) rfl rfl (by kernel_rfl) rfl ?_
  refine AOps_forget 0x501 (mkS 27 [(0, .cap c (.sl 1 (a0.map eB) (some t0))), (8, i64 a1), (10, i64 c)]) (by kernel_rfl) ?_
  refine AOps_seg 1 0xd01 (mkS 27 [(0, .cap c (.sl 1 (a0.map eB) (some t0))), (8, i64 a1), (10, i64 c), (11, .cap c (.sl 1 (a0.map eB) (some t0)))]) none [4, 5, 6, 7] (by kernel_rfl) (by kernel_rfl) trivial ?_
  refine AOps_lenC (e := 5) (tl_get rfl) rfl rfl (by kernel_rfl) rfl ?_
  refine AOps_forget 0x1501 (mkS 27 [(0, .cap c (.sl 1 (a0.map eB) (some t0))), (8, i64 a1), (10, i64 c), (12, i64 ((a0.map eB).length : Int))]) (by kernel_rfl) ?_
  refine AOps_seg 3 0x3 (mkS 27 [(0, .cap c (.sl 1 (a0.map eB) (some t0))), (1, i64 (IntKind.wrap .i64 (a1 - IntKind.wrap .i64 ((c : Int) - ((a0.map eB).length : Int)))))]) none [] (by kernel_rfl) (by kernel_rfl) trivial ?_
  rw [hx_]
  refine AOps_end ?_
  refine athen_n ?_
  refine AT_seq ?_
  refine AT_region ?_
  refine AOps_seg 2 0x10003 (mkS 27 [(0, .cap c (.sl 1 (a0.map eB) (some t0))), (1, i64 ((a0.length : Int) + a1 - c)), (16, bo (decide ((a0.length : Int) + a1 - c > 0)))]) none [] (by kernel_rfl) (by kernel_rfl) trivial ?_
  refine AOps_end ?_
  refine athen_n ?_
  refine AT_condS (decide ((a0.length : Int) + a1 - c > 0)) (by kernel_rfl) (fun hk => ?_) (fun _ => ?_)
  · have hk := of_decide_eq_true hk
    refine AT_region ?_
    refine AOps_seg 2 0x60003 (mkS 27 [(0, .cap c (.sl 1 (a0.map eB) (some t0))), (1, i64 ((a0.length : Int) + a1 - c)), (17, .cap c (.sl 1 (a0.map eB) (some t0))), (18, .cap c (.sl 1 (a0.map eB) (some t0)))]) none [2, 3, 4, 5, 6, 7, 8, 9] (by kernel_rfl) (by kernel_rfl) trivial ?_
    refine AOps_cap (e := 5) (tl_get rfl) rfl rfl (by kernel_rfl) rfl ?_
    refine AOps_forget 0xa0003 (mkS 27 [(0, .cap c (.sl 1 (a0.map eB) (some t0))), (1, i64 ((a0.length : Int) + a1 - c)), (17, .cap c (.sl 1 (a0.map eB) (some t0))), (19, i64 c)]) (by kernel_rfl) ?_
    refine AOps_sliceC (e := 5) (tl_get rfl) rfl rfl (by kernel_rfl) (by kernel_rfl) rfl rfl ?_
    refine AOps_forget 0x100003 (mkS 27 [(0, .cap c (.sl 1 (a0.map eB) (some t0))), (1, i64 ((a0.length : Int) + a1 - c)), (20, .wd 1 (a0.map eB) t0 c c)]) (by kernel_rfl) ?_
    refine AOps_seg 1 0x300001 (mkS 27 [(0, .cap c (.sl 1 (a0.map eB) (some t0))), (20, .wd 1 (a0.map eB) t0 c c), (21, i64 ((a0.length : Int) + a1 - c))]) none [5, 6, 7, 8, 9] (by kernel_rfl) (by kernel_rfl) trivial ?_
    refine AOps_growZ (e := 5) (bytes := 1) (kk := .i64) (tl_get rfl) rfl rfl (by kernel_rfl) (by kernel_rfl) (by kernel_rfl) rfl rfl (by rw [hlen_]; exact hh.tk 0 (by kernel_rfl)) hk (by omega) (by omega) (fun S_ u m_ c_ hf_ u_ => ?_)
    replace hh := hh.tkN' hf_ u_ (n := a0.length) hlen_
    refine AOps_forget 0x400001 (mkS 27 [(0, .cap c (.sl 1 (a0.map eB) (some t0))), (22, .wd 1 (a0.map eB) u m_ c_)]) (by kernel_rfl) ?_
    refine AOps_seg 1 0xc00000 (mkS 27 [(22, .wd 1 (a0.map eB) u m_ c_), (23, .cap c (.sl 1 (a0.map eB) (some t0)))]) none [7, 8, 9] (by kernel_rfl) (by kernel_rfl) trivial ?_
    refine AOps_lenC (e := 5) (tl_get rfl) rfl rfl (by kernel_rfl) rfl ?_
    refine AOps_forget 0x1400000 (mkS 27 [(22, .wd 1 (a0.map eB) u m_ c_), (24, i64 ((a0.map eB).length : Int))]) (by kernel_rfl) ?_
    refine AOps_sliceB (e := 5) (tl_get rfl) rfl rfl (by kernel_rfl) (by kernel_rfl) rfl rfl ?_
    refine AOps_forget 0x2000000 (mkS 27 [(25, .sl 1 (a0.map eB) (some u))]) (by kernel_rfl) ?_
    refine AOps_seg 1 0x1 (mkS 27 [(0, .sl 1 (a0.map eB) (some u))]) none [] (by kernel_rfl) (by kernel_rfl) trivial ?_
    refine AOps_end ?_
    refine athen_n ?_
    refine AT_seq ?_
    refine AT_region ?_
    refine AOps_seg 2 0x10 (mkS 27 [(4, .sl 1 (a0.map eB) (some u))]) none [] (by kernel_rfl) (by kernel_rfl) trivial ?_
    refine AOps_end ?_
    refine athen_n ?_
    refine AT_ret ?_
    exact ⟨[.sl 1 (a0.map eB) (some u)], _, S_, (.of (by kernel_rfl)), D.le.refl _, Store.le.refl _, u, rfl, (hh.sub [1] (by decide) (by kernel_rfl))⟩
  · refine AT_skip ?_
    refine athen_n ?_
    refine AT_seq ?_
    refine AT_region ?_
    refine AOps_seg 2 0x10 (mkS 27 [(4, .cap c (.sl 1 (a0.map eB) (some t0)))]) none [] (by kernel_rfl) (by kernel_rfl) trivial ?_
    refine AOps_end ?_
    refine athen_n ?_
    refine AT_ret ?_
    exact ⟨[.cap c (.sl 1 (a0.map eB) (some t0))], _, S, (.of (by kernel_rfl)), cap_le, Store.le.refl _, t0, rfl, hh⟩
theorem slices_Grow_byte.okn (a0 : List UInt8) (a1 : Int) (h0 : a0 = []) (S : Store) (r : List UInt8) (h : slices_Grow_byte.f a0 a1 = some r) : ACalls Try.prog 30 [nilS, i64 a1] S (fun r_ S_ => ∃ (u0 : Nat), r_ = .sl 1 (r.map eB) (some u0) ∧ Own S [] S_ [.t u0 (r).length 1]) := by
  subst h0
  rw [slices_Grow_byte.f] at h
  by_cases hc_ : 0 ≤ a1 ∧ ((([] : List UInt8).length : Int) + a1) * 1 ≤ 140737488355328
  rotate_left
  · rw [if_neg hc_] at h; cases h
  rw [if_pos hc_] at h
  have e_ := Option.some.inj h
  subst e_
  have hh := Own.nil (S := S)
  refine acalls_of Try.func30 rfl ?_
  refine AT_forget 0x3 (mkS 27 [(0, nilS), (1, i64 a1)]) (by kernel_rfl) ?_
  refine AT_nilU 0 1 (fun tk_ => mkS 27 [(0, .sl 1 [] (some tk_)), (1, i64 a1)]) (by kernel_rfl) (fun tk_ => by kernel_rfl) (fun S_ t0 hf_ u_ => ?_)
  replace hh := hh.tkN' hf_ u_ (n := 0) rfl
  have hlen_ : (([] : List UInt8).map eB).length = ([] : List UInt8).length := List.length_map _
  refine AT_know (sz := 1) (tk := t0) (es := (([] : List UInt8).map eB)) 0 (by kernel_rfl) (by rw [hlen_]; exact hh.tk 0 (by kernel_rfl)) (by rw [hlen_]; omega) (fun c hc1 hc2 => ?_)
  refine AT_to (mkS 27 [(0, .cap c (.sl 1 (([] : List UInt8).map eB) (some t0))), (1, i64 a1)]) (by kernel_rfl) ?_
  have hx_ : IntKind.wrap .i64 (a1 - IntKind.wrap .i64 ((c : Int) - ((([] : List UInt8).map eB).length : Int))) = (([] : List UInt8).length : Int) + a1 - c := by rw [hlen_] at hc1 ⊢; rw [IntWalk.i64_in ((c : Int) - ([] : List UInt8).length) ⟨by omega, by omega⟩, IntWalk.i64_in _ ⟨by omega, by omega⟩]; omega
  refine AT_seq ?_
  refine AT_region ?_
  refine AOps_seg 1 0x3 (mkS 27 [(0, .cap c (.sl 1 (([] : List UInt8).map eB) (some t0))), (1, i64 a1)]) none [] (by kernel_rfl) (by kernel_rfl) trivial ?_
  refine AOps_end ?_
  refine athen_n ?_
  refine AT_seq ?_
  refine AT_seq ?_
  refine AT_region ?_
  refine AOps_seg 2 0x43 (mkS 27 [(0, .cap c (.sl 1 (([] : List UInt8).map eB) (some t0))), (1, i64 a1), (6, bo (decide (a1 < 0)))]) none [] (by kernel_rfl) (by kernel_rfl) trivial ?_
  refine AOps_end ?_
  refine athen_n ?_
  refine AT_condS (decide (a1 < 0)) (by kernel_rfl) (fun hk => absurd (of_decide_eq_true hk) (by omega)) (fun _ => ?_)
  refine AT_skip ?_
  refine athen_n ?_
  refine AT_seq ?_
  refine AT_seq ?_
  refine AT_region ?_
  refine AOps_seg 2 0x303 (mkS 27 [(0, .cap c (.sl 1 (([] : List UInt8).map eB) (some t0))), (1, i64 a1), (8, i64 a1), (9, .cap c (.sl 1 (([] : List UInt8).map eB) (some t0)))]) none [2, 3, 4, 5, 6, 7] (by kernel_rfl) (by kernel_rfl) trivial ?_
  refine AOps_cap (e := 5) (tl_get rfl) rfl rfl (by kernel_rfl) rfl ?_
  refine AOps_forget 0x501 (mkS 27 [(0, .cap c (.sl 1 (([] : List UInt8).map eB) (some t0))), (8, i64 a1), (10, i64 c)]) (by kernel_rfl) ?_
  refine AOps_seg 1 0xd01 (mkS 27 [(0, .cap c (.sl 1 (([] : List UInt8).map eB) (some t0))), (8, i64 a1), (10, i64 c), (11, .cap c (.sl 1 (([] : List UInt8).map eB) (some t0)))]) none [4, 5, 6, 7] (by kernel_rfl) (by kernel_rfl) trivial ?_
  refine AOps_lenC (e := 5) (tl_get rfl) rfl rfl (by kernel_rfl) rfl ?_
  refine AOps_forget 0x1501 (mkS 27 [(0, .cap c (.sl 1 (([] : List UInt8).map eB) (some t0))), (8, i64 a1), (10, i64 c), (12, i64 ((([] : List UInt8).map eB).length : Int))]) (by kernel_rfl) ?_
  refine AOps_seg 3 0x3 (mkS 27 [(0, .cap c (.sl 1 (([] : List UInt8).map eB) (some t0))), (1, i64 (IntKind.wrap .i64 (a1 - IntKind.wrap .i64 ((c : Int) - ((([] : List UInt8).map eB).length : Int)))))]) none [] (by kernel_rfl) (by kernel_rfl) trivial ?_
  rw [hx_]
  refine AOps_end ?_
  refine athen_n ?_
  refine AT_seq ?_
  refine AT_region ?_
  refine AOps_seg 2 0x10003 (mkS 27 [(0, .cap c (.sl 1 (([] : List UInt8).map eB) (some t0))), (1, i64 ((([] : List UInt8).length : Int) + a1 - c)), (16, bo (decide ((([] : List UInt8).length : Int) + a1 - c > 0)))]) none [] (by kernel_rfl) (by kernel_rfl) trivial ?_
  refine AOps_end ?_
  refine athen_n ?_
  refine AT_condS (decide ((([] : List UInt8).length : Int) + a1 - c > 0)) (by kernel_rfl) (fun hk => ?_) (fun _ => ?_)
  · have hk := of_decide_eq_true hk
    refine AT_region ?_
    refine AOps_seg 2 0x60003 (mkS 27 [(0, .cap c (.sl 1 (([] : List UInt8).map eB) (some t0))), (1, i64 ((([] : List UInt8).length : Int) + a1 - c)), (17, .cap c (.sl 1 (([] : List UInt8).map eB) (some t0))), (18, .cap c (.sl 1 (([] : List UInt8).map eB) (some t0)))]) none [2, 3, 4, 5, 6, 7, 8, 9] (by kernel_rfl) (by kernel_rfl) trivial ?_
    refine AOps_cap (e := 5) (tl_get rfl) rfl rfl (by kernel_rfl) rfl ?_
    refine AOps_forget 0xa0003 (mkS 27 [(0, .cap c (.sl 1 (([] : List UInt8).map eB) (some t0))), (1, i64 ((([] : List UInt8).length : Int) + a1 - c)), (17, .cap c (.sl 1 (([] : List UInt8).map eB) (some t0))), (19, i64 c)]) (by kernel_rfl) ?_
    refine AOps_sliceC (e := 5) (tl_get rfl) rfl rfl (by kernel_rfl) (by kernel_rfl) rfl rfl ?_
    refine AOps_forget 0x100003 (mkS 27 [(0, .cap c (.sl 1 (([] : List UInt8).map eB) (some t0))), (1, i64 ((([] : List UInt8).length : Int) + a1 - c)), (20, .wd 1 (([] : List UInt8).map eB) t0 c c)]) (by kernel_rfl) ?_
    refine AOps_seg 1 0x300001 (mkS 27 [(0, .cap c (.sl 1 (([] : List UInt8).map eB) (some t0))), (20, .wd 1 (([] : List UInt8).map eB) t0 c c), (21, i64 ((([] : List UInt8).length : Int) + a1 - c))]) none [5, 6, 7, 8, 9] (by kernel_rfl) (by kernel_rfl) trivial ?_
    refine AOps_growZ (e := 5) (bytes := 1) (kk := .i64) (tl_get rfl) rfl rfl (by kernel_rfl) (by kernel_rfl) (by kernel_rfl) rfl rfl (by rw [hlen_]; exact hh.tk 0 (by kernel_rfl)) hk (by omega) (by omega) (fun S_ u m_ c_ hf_ u_ => ?_)
    replace hh := hh.tkN' hf_ u_ (n := ([] : List UInt8).length) hlen_
    refine AOps_forget 0x400001 (mkS 27 [(0, .cap c (.sl 1 (([] : List UInt8).map eB) (some t0))), (22, .wd 1 (([] : List UInt8).map eB) u m_ c_)]) (by kernel_rfl) ?_
    refine AOps_seg 1 0xc00000 (mkS 27 [(22, .wd 1 (([] : List UInt8).map eB) u m_ c_), (23, .cap c (.sl 1 (([] : List UInt8).map eB) (some t0)))]) none [7, 8, 9] (by kernel_rfl) (by kernel_rfl) trivial ?_
    refine AOps_lenC (e := 5) (tl_get rfl) rfl rfl (by kernel_rfl) rfl ?_
    refine AOps_forget 0x1400000 (mkS 27 [(22, .wd 1 (([] : List UInt8).map eB) u m_ c_), (24, i64 ((([] : List UInt8).map eB).length : Int))]) (by kernel_rfl) ?_
    refine AOps_sliceB (e := 5) (tl_get rfl) rfl rfl (by kernel_rfl) (by kernel_rfl) rfl rfl ?_
    refine AOps_forget 0x2000000 (mkS 27 [(25, .sl 1 (([] : List UInt8).map eB) (some u))]) (by kernel_rfl) ?_
    refine AOps_seg 1 0x1 (mkS 27 [(0, .sl 1 (([] : List UInt8).map eB) (some u))]) none [] (by kernel_rfl) (by kernel_rfl) trivial ?_
    refine AOps_end ?_
    refine athen_n ?_
    refine AT_seq ?_
    refine AT_region ?_
    refine AOps_seg 2 0x10 (mkS 27 [(4, .sl 1 (([] : List UInt8).map eB) (some u))]) none [] (by kernel_rfl) (by kernel_rfl) trivial ?_
    refine AOps_end ?_
    refine athen_n ?_
    refine AT_ret ?_
    exact ⟨[.sl 1 (([] : List UInt8).map eB) (some u)], _, S_, (.of (by kernel_rfl)), D.le.refl _, Store.le.refl _, u, rfl, (hh.sub [1] (by decide) (by kernel_rfl))⟩
  · refine AT_skip ?_
    refine athen_n ?_
    refine AT_seq ?_
    refine AT_region ?_
    refine AOps_seg 2 0x10 (mkS 27 [(4, .cap c (.sl 1 (([] : List UInt8).map eB) (some t0)))]) none [] (by kernel_rfl) (by kernel_rfl) trivial ?_
    refine AOps_end ?_
    refine athen_n ?_
    refine AT_ret ?_
    exact ⟨[.cap c (.sl 1 (([] : List UInt8).map eB) (some t0))], _, S_, (.of (by kernel_rfl)), cap_le, Store.le.refl _, t0, rfl, hh⟩
def varint_Put.l0 : Nat → Int → (List UInt8) → Option ((List UInt8))
  | 0, _, _ => none
  | k + 1, x1, x2 => if (decide (x1 ≥ 128)) = true then (if (x2.length + 1) * 1 ≤ 140737488355328 then (varint_Put.l0 k (Int.fdiv x1 (2 ^ min (7 : Int).toNat 64)) (x2 ++ ([(b8 (ibits .or .u8 ((b8 (IntKind.wrap .u8 x1)).toNat : Int) 128))] : List UInt8))) else none) else (if (x2.length + 1) * 1 ≤ 140737488355328 then (some (x2 ++ ([(b8 (IntKind.wrap .u8 x1))] : List UInt8))) else none)
def varint_Put.f (k : Nat) (a0 : (List UInt8)) (a1 : Int) : Option ((List UInt8)) := (slices_Clone_byte.f a0).bind fun v1 => ((varint_Size.f k a1).bind fun v2 => ((slices_Grow_byte.f v1 v2).bind fun v3 => (varint_Put.l0 k a1 v3)))
theorem varint_Put.mono_l : ∀ k, (∀ y0 y1, LeO (varint_Put.l0 k y0 y1) (varint_Put.l0 (k + 1) y0 y1))
  | 0 => fun _ _ r h => (by simp only [varint_Put.l0] at h; cases h)
  | k + 1 => by
    have ih := varint_Put.mono_l k
    · intro y0 y1
      rw [varint_Put.l0, varint_Put.l0]
      repeat' first
        | exact LeO.refl _
        | exact LeO.none _
        | exact ih _ _
        | exact varint_Size.mono _ _
        | refine LeO.ite ?_ ?_
        | refine LeO.bind ?_ (fun _ => ?_)
theorem varint_Put.mono (k : Nat) (a0 : (List UInt8)) (a1 : Int) : LeO (varint_Put.f k a0 a1) (varint_Put.f (k + 1) a0 a1) := by
  unfold varint_Put.f
  repeat' first
    | exact LeO.refl _
    | exact LeO.none _
    | exact (varint_Put.mono_l k) _ _
    | exact varint_Size.mono _ _
    | refine LeO.ite ?_ ?_
    | refine LeO.bind ?_ (fun _ => ?_)
theorem varint_Put.ok (k : Nat) (a0 : (List UInt8)) (a1 : Int) (S : Store) (r : (List UInt8)) (h : varint_Put.f k a0 a1 = some r) : ACalls Try.prog 17 [.sl 1 (a0.map eB) none, u64 a1] S (fun r_ S_ => ∃ (u0 : Nat), r_ = .sl 1 (r.map eB) (some u0) ∧ Own S [] S_ [.t u0 (r).length 1]) := by
  unfold varint_Put.f at h
  refine acalls_of Try.func17 rfl ?_
  have hh := Own.nil (S := S)
  refine AT_forget 0x3 (mkS 26 [(0, .sl 1 (a0.map eB) none), (1, u64 a1)]) (by kernel_rfl) ?_
  refine zsr ?_
  refine seg 1 [0, 1] [] [] (by kernel_rfl) (by kernel_rfl) ?_
  refine znsr ?_
  refine seg 1 [1, 6] [(6, .sl 1 (a0.map eB) none)] [1, 2, 3, 4, 5] (by kernel_rfl) (by kernel_rfl) ?_
  obtain ⟨v1, ht1, h⟩ := bs h
  refine AOps_callR _ [.sl 1 (a0.map eB) none] (tl_get rfl) rfl rfl rfl rfl Try.func29 (by decide) rfl ((.cons (D.le.refl _) (.nil))) (slices_Clone_byte.ok a0 _  _ ht1) ?_
  rintro _ S_ ⟨t1, rfl, h2_⟩
  replace hh := hh.calln h2_
  refine fg [1, 7] ?_
  refine seg 1 [1, 7, 8] [(8, u64 a1)] [3, 4, 5] (by kernel_rfl) (by kernel_rfl) ?_
  obtain ⟨v2, ht2, h⟩ := bs h
  refine AOps_callR _ [u64 a1] (tl_get rfl) rfl rfl rfl rfl Try.func31 (by decide) rfl ((.cons (D.le.refl _) (.nil))) (varint_Size.ok _ a1 _  _ ht2) ?_
  rintro _ S_ ⟨rfl, h2_⟩
  replace hh := hh.call0 h2_
  refine fg [1, 7, 9] ?_
  obtain ⟨v3, ht3, h⟩ := bs h
  refine AOps_callR _ [.sl 1 (v1.map eB) (some t1), i64 v2] (tl_get rfl) rfl rfl rfl rfl Try.func30 (by decide) rfl ((.cons (D.le.refl _) (.cons (D.le.refl _) (.nil)))) (slices_Grow_byte.ok v1 v2 _ _ t1 (hh.have_ [0] (by decide) (by kernel_rfl)).own _ ht3) ?_
  rintro _ S_ ⟨t2, rfl, h2_⟩
  replace hh := hh.call [0] [] (by decide) (by kernel_rfl) h2_ rfl
  refine fg [1, 10] ?_
  refine seg 1 [1, 5] [(5, .sl 1 (v3.map eB) (some t2))] [] (by kernel_rfl) (by kernel_rfl) ?_
  refine zn ?_
  refine AT_seq ?_
  refine AT_block ?_
  refine AT_loopM 0x22 (fun k_ sl_ S_ => k_ ≤ k ∧ ∃ (x1 : Int), ∃ (x2 : (List UInt8)), ∃ (tk1 : Nat), LeL sl_ (mkS 26 [(1, u64 x1), (5, .sl 1 (x2.map eB) (some tk1))]) ∧ varint_Put.l0 k_ x1 x2 = some r ∧ Own S [] S_ [.t tk1 (x2).length 1]) k ⟨Nat.le_refl _, a1, v3, t2, (le_rf (by kernel_rfl)), h, hh⟩ ?_
  clear hh h
  rintro k' sl_ S_ ⟨hk_, x1, x2, tk1, hl_, h, hh⟩
  refine AT_weaken hl_ ?_
  obtain _ | k1 := k'
  · cases h
  rw [varint_Put.l0] at h
  refine AT_seq ?_
  refine zsr ?_
  refine seg 2 [1, 5, 12] [(12, bo (decide (x1 ≥ 128)))] [] (by kernel_rfl) (by kernel_rfl) ?_
  refine zn ?_
  refine AT_condR (decide (x1 ≥ 128)) (by kernel_rfl) (fun hc1 => ?_) (fun hc1 => ?_)
  · rw [if_f hc1] at h
    refine AT_exit ?_
    refine athen_e ?_
    refine athen_e ?_
    refine ablock_h ?_
    refine athen_n ?_
    refine zsr ?_
    refine seg 3 [21, 23] [(21, .sl 1 (x2.map eB) (some tk1)), (23, u8 (IntKind.wrap .u8 x1))] [3, 4, 5] (by kernel_rfl) (by kernel_rfl) ?_
    refine tod 23 (u8 (IntKind.wrap .u8 x1)) (u8 ((b8 (IntKind.wrap .u8 x1)).toNat : Int)) (by kernel_rfl) (by rw [show ((b8 (IntKind.wrap .u8 x1)).toNat : Int) = IntKind.wrap .u8 x1 from b8_wrap _]) ?_
    refine AOps_litU (sz := 1) (es := [[u8 ((b8 (IntKind.wrap .u8 x1)).toNat : Int)]]) (tl_get rfl) rfl rfl rfl (by kernel_rfl) (by decide) (by kernel_rfl) (by decide) (by kernel_rfl) (by kernel_rfl) (by intro x hx; simp only [List.mem_cons, List.not_mem_nil, or_false] at hx; rcases hx with rfl <;> rfl) (fun S_ t4 hf_ u_ => ?_)
    replace hh := hh.tkN' hf_ u_ (n := (([(b8 (IntKind.wrap .u8 x1))] : List UInt8)).length) (by first | rfl | (simp [bytesD_len]; done) | (simp [bytesD_len]; omega))
    refine fg [21, 24] ?_
    obtain ⟨hl2, h⟩ := is h
    refine AOps_appendU (bytes := 1) (es := x2.map eB) (xs := [[u8 ((b8 (IntKind.wrap .u8 x1)).toNat : Int)]]) (tl := (some t4)) (x2).length (tl_get rfl) rfl rfl rfl (by kernel_rfl) rfl (hh.tk 0 (by kernel_rfl)) (by simp only [List.length_map, List.length_cons, List.length_nil]) (.inl ⟨5, by kernel_rfl, rfl⟩) (by simp only [List.length_map, bytesD_len, List.length_cons, List.length_nil]; omega) (by simp only [List.length_map, bytesD_len, List.length_cons, List.length_nil]; omega) (fun S_ u_ => ?_)
    replace hh := hh.tkS' 0 (by kernel_rfl) u_ (n := (x2 ++ ([(b8 (IntKind.wrap .u8 x1))] : List UInt8)).length) (by first | rfl | (simp [bytesD_len]; done) | (simp [bytesD_len]; omega))
    refine fg [25] ?_
    refine tod 25 (.sl 1 ((x2.map eB) ++ [[u8 ((b8 (IntKind.wrap .u8 x1)).toNat : Int)]]) (some tk1)) (.sl 1 ((x2 ++ ([(b8 (IntKind.wrap .u8 x1))] : List UInt8)).map eB) (some tk1)) (by kernel_rfl) (by first | rw [List.map_append]; done | (simp only [List.map_append]; done) | (simp only [List.map_append]; rfl) | (rw [List.map_append]; rfl)) ?_
    refine seg 1 [4] [(4, .sl 1 ((x2 ++ ([(b8 (IntKind.wrap .u8 x1))] : List UInt8)).map eB) (some tk1))] [] (by kernel_rfl) (by kernel_rfl) ?_
    refine zn ?_
    refine AT_ret ?_
    have e_ := Option.some.inj h
    subst e_
    exact ⟨[.sl 1 ((x2 ++ ([(b8 (IntKind.wrap .u8 x1))] : List UInt8)).map eB) (some tk1)], _, S_, (.of (by kernel_rfl)), D.le.refl _, Store.le.refl _, tk1, rfl, (hh.sub [0] (by decide) (by kernel_rfl))⟩
  rw [if_t hc1] at h
  refine zkn ?_
  refine AT_seq ?_
  refine AT_block ?_
  refine AT_region ?_
  refine seg 3 [1, 15, 17] [(15, .sl 1 (x2.map eB) (some tk1)), (17, u8 (IntKind.wrap .u8 x1))] [3, 4, 5, 6] (by kernel_rfl) (by kernel_rfl) ?_
  refine tod 17 (u8 (IntKind.wrap .u8 x1)) (u8 ((b8 (IntKind.wrap .u8 x1)).toNat : Int)) (by kernel_rfl) (by rw [show ((b8 (IntKind.wrap .u8 x1)).toNat : Int) = IntKind.wrap .u8 x1 from b8_wrap _]) ?_
  refine seg 1 [1, 15, 18] [(18, u8 (ibits .or .u8 ((b8 (IntKind.wrap .u8 x1)).toNat : Int) 128))] [4, 5, 6] (by kernel_rfl) (by kernel_rfl) ?_
  refine tod 18 (u8 (ibits .or .u8 ((b8 (IntKind.wrap .u8 x1)).toNat : Int) 128)) (u8 ((b8 (ibits .or .u8 ((b8 (IntKind.wrap .u8 x1)).toNat : Int) 128)).toNat : Int)) (by kernel_rfl) (by rw [show ((b8 (ibits .or .u8 ((b8 (IntKind.wrap .u8 x1)).toNat : Int) 128)).toNat : Int) = ibits .or .u8 ((b8 (IntKind.wrap .u8 x1)).toNat : Int) 128 from b8_bits _ _ _]) ?_
  refine AOps_litU (sz := 1) (es := [[u8 ((b8 (ibits .or .u8 ((b8 (IntKind.wrap .u8 x1)).toNat : Int) 128)).toNat : Int)]]) (tl_get rfl) rfl rfl rfl (by kernel_rfl) (by decide) (by kernel_rfl) (by decide) (by kernel_rfl) (by kernel_rfl) (by intro x hx; simp only [List.mem_cons, List.not_mem_nil, or_false] at hx; rcases hx with rfl <;> rfl) (fun S_ t3 hf_ u_ => ?_)
  replace hh := hh.tkN' hf_ u_ (n := (([(b8 (ibits .or .u8 ((b8 (IntKind.wrap .u8 x1)).toNat : Int) 128))] : List UInt8)).length) (by first | rfl | (simp [bytesD_len]; done) | (simp [bytesD_len]; omega))
  refine fg [1, 15, 19] ?_
  obtain ⟨hl1, h⟩ := is h
  refine AOps_appendU (bytes := 1) (es := x2.map eB) (xs := [[u8 ((b8 (ibits .or .u8 ((b8 (IntKind.wrap .u8 x1)).toNat : Int) 128)).toNat : Int)]]) (tl := (some t3)) (x2).length (tl_get rfl) rfl rfl rfl (by kernel_rfl) rfl (hh.tk 0 (by kernel_rfl)) (by simp only [List.length_map, List.length_cons, List.length_nil]) (.inl ⟨5, by kernel_rfl, rfl⟩) (by simp only [List.length_map, bytesD_len, List.length_cons, List.length_nil]; omega) (by simp only [List.length_map, bytesD_len, List.length_cons, List.length_nil]; omega) (fun S_ u_ => ?_)
  replace hh := hh.tkS' 0 (by kernel_rfl) u_ (n := (x2 ++ ([(b8 (ibits .or .u8 ((b8 (IntKind.wrap .u8 x1)).toNat : Int) 128))] : List UInt8)).length) (by first | rfl | (simp [bytesD_len]; done) | (simp [bytesD_len]; omega))
  refine fg [1, 20] ?_
  refine tod 20 (.sl 1 ((x2.map eB) ++ [[u8 ((b8 (ibits .or .u8 ((b8 (IntKind.wrap .u8 x1)).toNat : Int) 128)).toNat : Int)]]) (some tk1)) (.sl 1 ((x2 ++ ([(b8 (ibits .or .u8 ((b8 (IntKind.wrap .u8 x1)).toNat : Int) 128))] : List UInt8)).map eB) (some tk1)) (by kernel_rfl) (by first | rw [List.map_append]; done | (simp only [List.map_append]; done) | (simp only [List.map_append]; rfl) | (rw [List.map_append]; rfl)) ?_
  refine seg 1 [1, 5] [(5, .sl 1 ((x2 ++ ([(b8 (ibits .or .u8 ((b8 (IntKind.wrap .u8 x1)).toNat : Int) 128))] : List UInt8)).map eB) (some tk1))] [] (by kernel_rfl) (by kernel_rfl) ?_
  refine AOps_end ?_
  refine ablock_n ?_
  refine athen_n ?_
  refine AT_region ?_
  refine segc 2 [5, 14] [(14, u64 (Int.fdiv x1 (2 ^ min (7 : Int).toNat 64)))] ((0 : Int) ≤ 7) [2] (by kernel_rfl) (by kernel_rfl) ((by show (0 : Int) ≤ 7; decide)) ?_
  refine seg 1 [1, 5] [(1, u64 (Int.fdiv x1 (2 ^ min (7 : Int).toNat 64)))] [] (by kernel_rfl) (by kernel_rfl) ?_
  refine zn ?_
  exact ⟨k1, (by omega), (by omega), Int.fdiv x1 (2 ^ min (7 : Int).toNat 64), x2 ++ ([(b8 (ibits .or .u8 ((b8 (IntKind.wrap .u8 x1)).toNat : Int) 128))] : List UInt8), tk1, (le_rf (by kernel_rfl)), h, (hh.sub [0] (by decide) (by kernel_rfl))⟩
mutual
def schema_Put.j1 : Nat → (List Col) → Int → (List UInt8) → UInt8 → Option ((List UInt8))
  | 0, _, _, _, _ => none
  | k + 1, a1, x2, v4, x3 => if ((v4 ++ ((rd a1 x2 Col.zero).Name)).length + ([(b8 (IntKind.wrap .u8 ((rd a1 x2 Col.zero).Type_))), x3] : List UInt8).length) * 1 ≤ 140737488355328 then (schema_Put.l0 k a1 ((v4 ++ ((rd a1 x2 Col.zero).Name)) ++ ([(b8 (IntKind.wrap .u8 ((rd a1 x2 Col.zero).Type_))), x3] : List UInt8)) (IntKind.wrap .i64 (x2 + 1))) else none
def schema_Put.l0 : Nat → (List Col) → (List UInt8) → Int → Option ((List UInt8))
  | 0, _, _, _ => none
  | k + 1, a1, x1, x2 => if (decide (x2 < (a1.length : Int))) = true then (if 0 ≤ x2 ∧ x2 < (a1.length : Int) then ((varint_Put.f k x1 (IntKind.wrap .u64 (((rd a1 x2 Col.zero).Name).length : Int))).bind fun v4 => (if (v4.length + ((rd a1 x2 Col.zero).Name).length) * 1 ≤ 140737488355328 then (if ((rd a1 x2 Col.zero).Nullable) = true then (schema_Put.j1 k a1 x2 v4 1) else (schema_Put.j1 k a1 x2 v4 0)) else none)) else none) else (some x1)
end
def schema_Put.f (k : Nat) (a0 : (List UInt8)) (a1 : (List Col)) : Option ((List UInt8)) := (cell_Cols.f k a1).bind fun v1 => (if (v1 != 0) = true then ((slices_Clone_byte.f a0).bind fun v2 => (some v2)) else ((varint_Put.f k a0 (IntKind.wrap .u64 (a1.length : Int))).bind fun v3 => (schema_Put.l0 k a1 v3 0)))
theorem schema_Put.mono_l : ∀ k, (∀ y0 y1 y2 y3, LeO (schema_Put.j1 k y0 y1 y2 y3) (schema_Put.j1 (k + 1) y0 y1 y2 y3)) ∧ (∀ y0 y1 y2, LeO (schema_Put.l0 k y0 y1 y2) (schema_Put.l0 (k + 1) y0 y1 y2))
  | 0 => ⟨fun _ _ _ _ r h => (by simp only [schema_Put.j1] at h; cases h), fun _ _ _ r h => (by simp only [schema_Put.l0] at h; cases h)⟩
  | k + 1 => by
    have ih := schema_Put.mono_l k
    refine ⟨?_, ?_⟩
    · intro y0 y1 y2 y3
      rw [schema_Put.j1, schema_Put.j1]
      repeat' first
        | exact LeO.refl _
        | exact LeO.none _
        | exact ih.1 _ _ _ _
        | exact ih.2 _ _ _
        | exact cell_Cols.mono _ _
        | exact varint_Put.mono _ _ _
        | refine LeO.ite ?_ ?_
        | refine LeO.bind ?_ (fun _ => ?_)
    · intro y0 y1 y2
      rw [schema_Put.l0, schema_Put.l0]
      repeat' first
        | exact LeO.refl _
        | exact LeO.none _
        | exact ih.1 _ _ _ _
        | exact ih.2 _ _ _
        | exact cell_Cols.mono _ _
        | exact varint_Put.mono _ _ _
        | refine LeO.ite ?_ ?_
        | refine LeO.bind ?_ (fun _ => ?_)
theorem schema_Put.mono (k : Nat) (a0 : (List UInt8)) (a1 : (List Col)) : LeO (schema_Put.f k a0 a1) (schema_Put.f (k + 1) a0 a1) := by
  unfold schema_Put.f
  repeat' first
    | exact LeO.refl _
    | exact LeO.none _
    | exact (schema_Put.mono_l k).1 _ _ _ _
    | exact (schema_Put.mono_l k).2 _ _ _
    | exact cell_Cols.mono _ _
    | exact varint_Put.mono _ _ _
    | refine LeO.ite ?_ ?_
    | refine LeO.bind ?_ (fun _ => ?_)
theorem schema_Put.ok (k : Nat) (a0 : (List UInt8)) (a1 : (List Col)) (S : Store) (r : (List UInt8)) (h : schema_Put.f k a0 a1 = some r) : ACalls Try.prog 15 [.sl 1 (a0.map eB) none, .sl 3 (a1.map Col.enc) none] S (fun r_ S_ => ∃ (u0 : Nat), r_ = .sl 1 (r.map eB) (some u0) ∧ Own S [] S_ [.t u0 (r).length 1]) := by
  unfold schema_Put.f at h
  refine acalls_of Try.func15 rfl ?_
  have hh := Own.nil (S := S)
  refine AT_forget 0x3 (mkS 44 [(0, .sl 1 (a0.map eB) none), (1, .sl 3 (a1.map Col.enc) none)]) (by kernel_rfl) ?_
  refine zsr ?_
  refine seg 1 [0, 1] [] [] (by kernel_rfl) (by kernel_rfl) ?_
  refine zn ?_
  refine AT_seq ?_
  refine zsr ?_
  refine seg 1 [0, 1, 8] [(8, .sl 3 (a1.map Col.enc) none)] [1, 2] (by kernel_rfl) (by kernel_rfl) ?_
  obtain ⟨v1, ht1, h⟩ := bs h
  refine AOps_callR _ [.sl 3 (a1.map Col.enc) none] (tl_get rfl) rfl rfl rfl rfl Try.func26 (by decide) rfl ((.cons (D.le.refl _) (.nil))) (cell_Cols.ok _ a1 _  _ ht1) ?_
  rintro _ S_ ⟨rfl, h2_⟩
  replace hh := hh.call0 h2_
  refine fg [0, 1, 9] ?_
  refine seg 1 [0, 1, 10] [(10, bo (v1 != 0))] [] (by kernel_rfl) (by kernel_rfl) ?_
  refine zn ?_
  refine AT_condS (v1 != 0) (by kernel_rfl) (fun hc1 => ?_) (fun hc1 => ?_)
  · rw [if_t hc1] at h
    refine zsr ?_
    refine seg 1 [11] [(11, .sl 1 (a0.map eB) none)] [1, 2] (by kernel_rfl) (by kernel_rfl) ?_
    obtain ⟨v2, ht2, h⟩ := bs h
    refine AOps_callR _ [.sl 1 (a0.map eB) none] (tl_get rfl) rfl rfl rfl rfl Try.func29 (by decide) rfl ((.cons (D.le.refl _) (.nil))) (slices_Clone_byte.ok a0 _  _ ht2) ?_
    rintro _ S_ ⟨t1, rfl, h2_⟩
    replace hh := hh.calln h2_
    refine fg [12] ?_
    refine seg 1 [4] [(4, .sl 1 (v2.map eB) (some t1))] [] (by kernel_rfl) (by kernel_rfl) ?_
    refine zn ?_
    refine AT_ret ?_
    refine athen_r ?_
    have e_ := Option.some.inj h
    subst e_
    exact ⟨[.sl 1 (v2.map eB) (some t1)], _, S_, (.of (by kernel_rfl)), D.le.refl _, Store.le.refl _, t1, rfl, hh⟩
  rw [if_f hc1] at h
  refine zkn ?_
  refine zsr ?_
  refine seg 3 [1, 13, 15] [(13, .sl 1 (a0.map eB) none), (15, i64 ((a1.map Col.enc).length : Int))] [3, 4, 5] (by kernel_rfl) (by kernel_rfl) ?_
  refine tod 15 (i64 ((a1.map Col.enc).length : Int)) (i64 (a1.length : Int)) (by kernel_rfl) (by rw [List.length_map]) ?_
  refine seg 1 [1, 13, 16] [(16, u64 (IntKind.wrap .u64 (a1.length : Int)))] [4, 5] (by kernel_rfl) (by kernel_rfl) ?_
  obtain ⟨v3, ht3, h⟩ := bs h
  refine AOps_callR _ [.sl 1 (a0.map eB) none, u64 (IntKind.wrap .u64 (a1.length : Int))] (tl_get rfl) rfl rfl rfl rfl Try.func17 (by decide) rfl ((.cons (D.le.refl _) (.cons (D.le.refl _) (.nil)))) (varint_Put.ok _ a0 (IntKind.wrap .u64 (a1.length : Int)) _  _ ht3) ?_
  rintro _ S_ ⟨t2, rfl, h2_⟩
  replace hh := hh.calln h2_
  refine fg [1, 17] ?_
  refine seg 1 [0, 1] [(0, .sl 1 (v3.map eB) (some t2))] [] (by kernel_rfl) (by kernel_rfl) ?_
  refine zn ?_
  refine AT_seq ?_
  refine zsr ?_
  refine AOps_seg 2 0xc0001 (mkS 44 [(0, .sl 1 (v3.map eB) (some t2)), (18, .sl 3 (a1.map Col.enc) none), (19, i64 ((a1.map Col.enc).length : Int))]) none [2] (by kernel_rfl) (by kernel_rfl) trivial ?_
  refine tod 19 (i64 ((a1.map Col.enc).length : Int)) (i64 (a1.length : Int)) (by kernel_rfl) (by rw [List.length_map]) ?_
  refine seg 1 [0, 18, 19, 20] [(20, i64 0)] [] (by kernel_rfl) (by kernel_rfl) ?_
  refine zn ?_
  refine AT_block ?_
  refine AT_loopM 0x1c0001 (fun k_ sl_ S_ => k_ ≤ k ∧ ∃ (x1 : (List UInt8)), ∃ (x2 : Int), ∃ (tk1 : Nat), LeL sl_ (mkS 44 [(0, .sl 1 (x1.map eB) (some tk1)), (18, .sl 3 (a1.map Col.enc) none), (19, i64 (a1.length : Int)), (20, i64 x2)]) ∧ schema_Put.l0 k_ a1 x1 x2 = some r ∧ Own S [] S_ [.t tk1 (x1).length 1]) k ⟨Nat.le_refl _, v3, 0, t2, (le_rf (by kernel_rfl)), h, hh⟩ ?_
  clear hh h
  rintro k' sl_ S_ ⟨hk_, x1, x2, tk1, hl_, h, hh⟩
  refine AT_weaken hl_ ?_
  obtain _ | k1 := k'
  · cases h
  rw [schema_Put.l0] at h
  refine zsr ?_
  refine seg 1 [0, 18, 19, 20, 21] [(21, bo (decide (x2 < (a1.length : Int))))] [] (by kernel_rfl) (by kernel_rfl) ?_
  refine zn ?_
  refine AT_seq ?_
  refine AT_condR (decide (x2 < (a1.length : Int))) (by kernel_rfl) (fun hc2 => ?_) (fun hc2 => ?_)
  · rw [if_f hc2] at h
    refine AT_exit ?_
    refine athen_e ?_
    refine athen_e ?_
    refine ablock_h ?_
    refine athen_n ?_
    refine zsr ?_
    refine seg 2 [4] [(4, .sl 1 (x1.map eB) (some tk1))] [] (by kernel_rfl) (by kernel_rfl) ?_
    refine zn ?_
    refine AT_ret ?_
    have e_ := Option.some.inj h
    subst e_
    exact ⟨[.sl 1 (x1.map eB) (some tk1)], _, S_, (.of (by kernel_rfl)), D.le.refl _, Store.le.refl _, tk1, rfl, hh⟩
  rw [if_t hc2] at h
  refine zkn ?_
  refine AT_seq ?_
  refine AT_block ?_
  refine zsr ?_
  obtain ⟨hi3, h⟩ := is h
  refine segc 1 [0, 18, 19, 20, 22] [(22, .pt ((a1.map Col.enc).getD (x2 : Int).toNat []))] (0 ≤ x2 ∧ x2 < ((a1.map Col.enc).length : Int)) [1, 2, 3] (by kernel_rfl) (by kernel_rfl) (idx_ok hi3) ?_
  refine tod 22 (.pt ((a1.map Col.enc).getD (x2 : Int).toNat [])) (.pt (Col.enc (rd a1 x2 Col.zero))) (by kernel_rfl) (by rw [pt_rd Col.enc a1 x2 Col.zero hi3.1 hi3.2]) ?_
  refine seg 1 [0, 18, 19, 20, 23] [(23, .ag (Col.enc (rd a1 x2 Col.zero)))] [2, 3] (by kernel_rfl) (by kernel_rfl) ?_
  refine AOps_newvar (zs := [str [], i64 0, bo false]) (ds := (Col.enc (rd a1 x2 Col.zero))) (d := 6) (tl_get rfl) rfl rfl rfl (by kernel_rfl) (by kernel_rfl) (tl_get rfl) (fun _ => rfl) rfl rfl (fun _ => rfl) rfl (by kernel_rfl) (by kernel_rfl) ?_
  refine AOps_forget 0x1c0041 (mkS 44 [(0, .sl 1 (x1.map eB) (some tk1)), (6, .pt (Col.enc (rd a1 x2 Col.zero))), (18, .sl 3 (a1.map Col.enc) none), (19, i64 (a1.length : Int)), (20, i64 x2)]) (by kernel_rfl) ?_
  refine zn ?_
  refine AT_seq ?_
  refine AT_draw [5, 8] 10 (fun _ => True) (by kernel_rfl) ?_
  refine aseg 10 [] [0, 6, 18, 19, 20] [] #[false, false, false, false, false, false, false, false, false, false] (by kernel_rfl) (by kernel_rfl) ?_
  refine aseg 3 [0, 1, 2, 3, 4, 6, 7] [0, 6, 18, 19, 20, 24, 28, 31] [(24, .sl 1 (x1.map eB) (some tk1)), (28, u64 (IntKind.wrap .u64 (((rd a1 x2 Col.zero).Name).length : Int))), (31, str ((rd a1 x2 Col.zero).Name))] #[true, true, true, true, true, false, true, true, false, false] (by kernel_rfl) (by kernel_rfl) ?_
  refine AAny_eff (fuel := 2) 5 (.inr trivial) (tl_get rfl) (by kernel_rfl) (by kernel_rfl) (by kernel_rfl) ?_
  obtain ⟨v4, ht4, h⟩ := bs h
  refine AOps_callR _ [.sl 1 (x1.map eB) none, u64 (IntKind.wrap .u64 (((rd a1 x2 Col.zero).Name).length : Int))] (tl_get rfl) rfl rfl rfl rfl Try.func17 (by decide) rfl ((.cons (sl_le) (.cons (D.le.refl _) (.nil)))) (varint_Put.ok _ x1 (IntKind.wrap .u64 (((rd a1 x2 Col.zero).Name).length : Int)) _  _ ht4) ?_
  rintro _ S_ ⟨t3, rfl, h2_⟩
  replace hh := hh.calln h2_
  refine AOps_end ⟨rfl, _, rfl, ?_⟩; refine afg [0, 6, 18, 19, 20, 29, 31] #[true, true, true, true, true, true, true, true, false, false] (by kernel_rfl) ?_
  refine AAny_eff (fuel := 1) 8 (.inr trivial) (tl_get rfl) (by kernel_rfl) (by kernel_rfl) (by kernel_rfl) ?_
  obtain ⟨hl1, h⟩ := is h
  refine AOps_appendU (bytes := 1) (es := v4.map eB) (xs := bytesD ⟨((rd a1 x2 Col.zero).Name).toArray⟩) (tl := none) (v4).length (tl_get rfl) rfl rfl rfl (by kernel_rfl) rfl (hh.tk 0 (by kernel_rfl)) (by simp only [List.length_map, List.length_cons, List.length_nil]) (.inr ⟨_, by kernel_rfl, rfl, rfl, rfl⟩) (by simp only [List.length_map, bytesD_len, List.length_cons, List.length_nil]; omega) (by simp only [List.length_map, bytesD_len, List.length_cons, List.length_nil]; omega) (fun S_ u_ => ?_)
  replace hh := hh.tkS' 0 (by kernel_rfl) u_ (n := (v4 ++ ((rd a1 x2 Col.zero).Name)).length) (by first | rfl | (simp [bytesD_len]; done) | (simp [bytesD_len]; omega))
  refine AOps_end ⟨rfl, _, rfl, ?_⟩; refine afg [0, 6, 18, 19, 20, 32] #[true, true, true, true, true, true, true, true, true, false] (by kernel_rfl) ?_
  refine atod 32 (.sl 1 ((v4.map eB) ++ (bytesD ⟨((rd a1 x2 Col.zero).Name).toArray⟩)) (some t3)) (.sl 1 ((v4 ++ ((rd a1 x2 Col.zero).Name)).map eB) (some t3)) (by kernel_rfl) (by first | rw [List.map_append]; done | (simp only [List.map_append, bytesD_eq]; done) | (simp only [List.map_append, bytesD_eq]; rfl) | (rw [List.map_append]; rfl)) ?_
  refine aseg 0 [9] [0, 6, 18, 19, 20] [(0, .sl 1 ((v4 ++ ((rd a1 x2 Col.zero).Name)).map eB) (some t3))] #[true, true, true, true, true, true, true, true, true, true] (by kernel_rfl) (by kernel_rfl) ?_
  refine AAny_end (.inr trivial) (by kernel_rfl) ?_
  refine athen_n ?_
  refine zsr ?_
  refine seg 1 [0, 6, 7, 18, 19, 20] [(7, u8 0)] [] (by kernel_rfl) (by kernel_rfl) ?_
  refine zn ?_
  refine AT_cutM 0x1c00c1 (fun sl_ S_ => ∃ (k_ : Nat), k_ ≤ k1 ∧ ∃ (x3 : UInt8), ∃ (tk2 : Nat), LeL sl_ (mkS 44 [(0, .sl 1 ((v4 ++ ((rd a1 x2 Col.zero).Name)).map eB) (some tk2)), (6, .pt (Col.enc (rd a1 x2 Col.zero))), (7, u8 (x3.toNat : Int)), (18, .sl 3 (a1.map Col.enc) none), (19, i64 (a1.length : Int)), (20, i64 x2)]) ∧ schema_Put.j1 k_ a1 x2 v4 x3 = some r ∧ Own S [] S_ [.t tk2 (v4 ++ ((rd a1 x2 Col.zero).Name)).length 1]) ?_ ?_
  · refine AT_seq ?_
    refine AT_region ?_
    refine seg 2 [0, 6, 7, 18, 19, 20, 34] [(34, bo ((rd a1 x2 Col.zero).Nullable))] [] (by kernel_rfl) (by kernel_rfl) ?_
    refine zn ?_
    refine AT_condR ((rd a1 x2 Col.zero).Nullable) (by kernel_rfl) (fun hc4 => ?_) (fun hc4 => ?_)
    · rw [if_f hc4] at h
      refine zkn ?_
      exact ⟨k1, (by omega), 0, t3, (le_rf (by kernel_rfl)), h, (hh.sub [0] (by decide) (by kernel_rfl))⟩
    rw [if_t hc4] at h
    refine AT_region ?_
    refine seg 1 [0, 6, 7, 18, 19, 20] [(7, u8 1)] [] (by kernel_rfl) (by kernel_rfl) ?_
    refine zn ?_
    exact ⟨k1, (by omega), 1, t3, (le_rf (by kernel_rfl)), h, (hh.sub [0] (by decide) (by kernel_rfl))⟩
  clear h hh
  rintro sl_ S_ ⟨k', hk_, x3, tk2, hl_, h, hh⟩
  refine AT_weaken hl_ ?_
  obtain _ | k2 := k'
  · cases h
  rw [schema_Put.j1] at h
  refine AT_region ?_
  refine seg 4 [7, 18, 19, 20, 35, 38] [(35, .sl 1 ((v4 ++ ((rd a1 x2 Col.zero).Name)).map eB) (some tk2)), (38, u8 (IntKind.wrap .u8 ((rd a1 x2 Col.zero).Type_)))] [4, 5, 6, 7] (by kernel_rfl) (by kernel_rfl) ?_
  refine tod 38 (u8 (IntKind.wrap .u8 ((rd a1 x2 Col.zero).Type_))) (u8 ((b8 (IntKind.wrap .u8 ((rd a1 x2 Col.zero).Type_))).toNat : Int)) (by kernel_rfl) (by rw [show ((b8 (IntKind.wrap .u8 ((rd a1 x2 Col.zero).Type_))).toNat : Int) = IntKind.wrap .u8 ((rd a1 x2 Col.zero).Type_) from b8_wrap _]) ?_
  refine seg 1 [18, 19, 20, 35, 38, 39] [(39, u8 (x3.toNat : Int))] [5, 6, 7] (by kernel_rfl) (by kernel_rfl) ?_
  refine AOps_litU (sz := 1) (es := [[u8 ((b8 (IntKind.wrap .u8 ((rd a1 x2 Col.zero).Type_))).toNat : Int)], [u8 (x3.toNat : Int)]]) (tl_get rfl) rfl rfl rfl (by kernel_rfl) (by decide) (by kernel_rfl) (by decide) (by kernel_rfl) (by kernel_rfl) (by intro x hx; simp only [List.mem_cons, List.not_mem_nil, or_false] at hx; rcases hx with rfl | rfl <;> rfl) (fun S_ t4 hf_ u_ => ?_)
  replace hh := hh.tkN' hf_ u_ (n := (([(b8 (IntKind.wrap .u8 ((rd a1 x2 Col.zero).Type_))), x3] : List UInt8)).length) (by first | rfl | (simp [bytesD_len]; done) | (simp [bytesD_len]; omega))
  refine fg [18, 19, 20, 35, 40] ?_
  obtain ⟨hl2, h⟩ := is h
  refine AOps_appendU (bytes := 1) (es := (v4 ++ ((rd a1 x2 Col.zero).Name)).map eB) (xs := [[u8 ((b8 (IntKind.wrap .u8 ((rd a1 x2 Col.zero).Type_))).toNat : Int)], [u8 (x3.toNat : Int)]]) (tl := (some t4)) (v4 ++ ((rd a1 x2 Col.zero).Name)).length (tl_get rfl) rfl rfl rfl (by kernel_rfl) rfl (hh.tk 0 (by kernel_rfl)) (by simp only [List.length_map, List.length_cons, List.length_nil]) (.inl ⟨5, by kernel_rfl, rfl⟩) (by simp only [List.length_map, bytesD_len, List.length_cons, List.length_nil]; omega) (by simp only [List.length_map, bytesD_len, List.length_cons, List.length_nil]; omega) (fun S_ u_ => ?_)
  replace hh := hh.tkS' 0 (by kernel_rfl) u_ (n := ((v4 ++ ((rd a1 x2 Col.zero).Name)) ++ ([(b8 (IntKind.wrap .u8 ((rd a1 x2 Col.zero).Type_))), x3] : List UInt8)).length) (by first | rfl | (simp [bytesD_len]; done) | (simp [bytesD_len]; omega))
  refine fg [18, 19, 20, 41] ?_
  refine tod 41 (.sl 1 (((v4 ++ ((rd a1 x2 Col.zero).Name)).map eB) ++ [[u8 ((b8 (IntKind.wrap .u8 ((rd a1 x2 Col.zero).Type_))).toNat : Int)], [u8 (x3.toNat : Int)]]) (some tk2)) (.sl 1 (((v4 ++ ((rd a1 x2 Col.zero).Name)) ++ ([(b8 (IntKind.wrap .u8 ((rd a1 x2 Col.zero).Type_))), x3] : List UInt8)).map eB) (some tk2)) (by kernel_rfl) (by first | rw [List.map_append]; done | (simp only [List.map_append]; done) | (simp only [List.map_append]; rfl) | (rw [List.map_append]; rfl)) ?_
  refine seg 1 [0, 18, 19, 20] [(0, .sl 1 (((v4 ++ ((rd a1 x2 Col.zero).Name)) ++ ([(b8 (IntKind.wrap .u8 ((rd a1 x2 Col.zero).Type_))), x3] : List UInt8)).map eB) (some tk2))] [] (by kernel_rfl) (by kernel_rfl) ?_
  refine AOps_end ?_
  refine ablock_n ?_
  refine athen_n ?_
  refine AT_region ?_
  refine seg 2 [0, 18, 19, 20] [(20, i64 (IntKind.wrap .i64 (x2 + 1)))] [] (by kernel_rfl) (by kernel_rfl) ?_
  refine zn ?_
  exact ⟨k2, (by omega), (by omega), (v4 ++ ((rd a1 x2 Col.zero).Name)) ++ ([(b8 (IntKind.wrap .u8 ((rd a1 x2 Col.zero).Type_))), x3] : List UInt8), IntKind.wrap .i64 (x2 + 1), tk2, (le_rf (by kernel_rfl)), h, (hh.sub [0] (by decide) (by kernel_rfl))⟩
def plain_right_c1_s0.f (k : Nat) (a0 : Cell) (a1 : Col) : Option (Bool) := (cell_Right.f k a0 a1).bind fun v1 => (some (!v1))
theorem plain_right_c1_s0.mono (k : Nat) (a0 : Cell) (a1 : Col) : LeO (plain_right_c1_s0.f k a0 a1) (plain_right_c1_s0.f (k + 1) a0 a1) := by
  unfold plain_right_c1_s0.f
  repeat' first
    | exact LeO.refl _
    | exact LeO.none _
    | exact cell_Right.mono _ _ _
    | refine LeO.ite ?_ ?_
    | refine LeO.bind ?_ (fun _ => ?_)
theorem plain_right_c1_s0.ok (k : Nat) (a0 : Cell) (a1 : Col) (S : Store) (r : Bool) (h : plain_right_c1_s0.f k a0 a1 = some r) : ACalls Try.prog 58 [.ag (Cell.enc a0), .pt (Col.enc a1)] S (fun r_ S_ => r_ = bo r ∧ Own S [] S_ []) := by
  unfold plain_right_c1_s0.f at h
  refine acalls_of Try.func58 rfl ?_
  have hh := Own.nil (S := S)
  refine AT_forget 0x3 (mkS 8 [(0, .ag (Cell.enc a0)), (1, .pt (Col.enc a1))]) (by kernel_rfl) ?_
  refine zsr ?_
  refine AOps_box_im (ds := (Cell.enc a0)) (tl_get rfl) rfl rfl (by kernel_rfl) ?_
  refine fg [1, 2] ?_
  refine seg 1 [1, 2] [] [] (by kernel_rfl) (by kernel_rfl) ?_
  refine znsr ?_
  refine seg 2 [4, 5] [(4, .ag (Cell.enc a0)), (5, .ag (Col.enc a1))] [2, 3, 4] (by kernel_rfl) (by kernel_rfl) ?_
  obtain ⟨v1, ht1, h⟩ := bs h
  refine AOps_callR _ [.ag (Cell.enc a0), .ag (Col.enc a1)] (tl_get rfl) rfl rfl rfl rfl Try.func42 (by decide) rfl ((.cons (D.le.refl _) (.cons (D.le.refl _) (.nil)))) (cell_Right.ok _ a0 a1 _  _ ht1) ?_
  rintro _ S_ ⟨rfl, h2_⟩
  replace hh := hh.call0 h2_
  refine fg [6] ?_
  refine seg 2 [3] [(3, bo (!v1))] [] (by kernel_rfl) (by kernel_rfl) ?_
  refine zn ?_
  refine AT_ret ?_
  have e_ := Option.some.inj h
  subst e_
  exact ⟨[bo (!v1)], _, S_, (.of (by kernel_rfl)), D.le.refl _, Store.le.refl _, rfl, hh⟩
def slices_IndexFunc_api_Cell_s0.l0 : Nat → (List Cell) → Col → Int → Option (Int)
  | 0, _, _, _ => none
  | k + 1, a0, a1, x1 => if (decide (x1 < (a0.length : Int))) = true then (if 0 ≤ x1 ∧ x1 < (a0.length : Int) then ((plain_right_c1_s0.f k (rd a0 x1 Cell.zero) a1).bind fun v1 => (if v1 = true then (some x1) else (slices_IndexFunc_api_Cell_s0.l0 k a0 a1 (IntKind.wrap .i64 (x1 + 1))))) else none) else (some (-1))
def slices_IndexFunc_api_Cell_s0.f (k : Nat) (a0 : (List Cell)) (a1 : Col) : Option (Int) := slices_IndexFunc_api_Cell_s0.l0 k a0 a1 0
theorem slices_IndexFunc_api_Cell_s0.mono_l : ∀ k, (∀ y0 y1 y2, LeO (slices_IndexFunc_api_Cell_s0.l0 k y0 y1 y2) (slices_IndexFunc_api_Cell_s0.l0 (k + 1) y0 y1 y2))
  | 0 => fun _ _ _ r h => (by simp only [slices_IndexFunc_api_Cell_s0.l0] at h; cases h)
  | k + 1 => by
    have ih := slices_IndexFunc_api_Cell_s0.mono_l k
    · intro y0 y1 y2
      rw [slices_IndexFunc_api_Cell_s0.l0, slices_IndexFunc_api_Cell_s0.l0]
      repeat' first
        | exact LeO.refl _
        | exact LeO.none _
        | exact ih _ _ _
        | exact plain_right_c1_s0.mono _ _ _
        | refine LeO.ite ?_ ?_
        | refine LeO.bind ?_ (fun _ => ?_)
theorem slices_IndexFunc_api_Cell_s0.mono (k : Nat) (a0 : (List Cell)) (a1 : Col) : LeO (slices_IndexFunc_api_Cell_s0.f k a0 a1) (slices_IndexFunc_api_Cell_s0.f (k + 1) a0 a1) := by
  unfold slices_IndexFunc_api_Cell_s0.f
  repeat' first
    | exact LeO.refl _
    | exact LeO.none _
    | exact (slices_IndexFunc_api_Cell_s0.mono_l k) _ _ _
    | exact plain_right_c1_s0.mono _ _ _
    | refine LeO.ite ?_ ?_
    | refine LeO.bind ?_ (fun _ => ?_)
theorem slices_IndexFunc_api_Cell_s0.ok (k : Nat) (a0 : (List Cell)) (a1 : Col) (S : Store) (r : Int) (h : slices_IndexFunc_api_Cell_s0.f k a0 a1 = some r) : ACalls Try.prog 74 [.sl 5 (a0.map Cell.enc) none, .fn (.func 58) [] [.pt (Col.enc a1)]] S (fun r_ S_ => r_ = i64 r ∧ Own S [] S_ []) := by
  unfold slices_IndexFunc_api_Cell_s0.f at h
  refine acalls_of Try.func74 rfl ?_
  have hh := Own.nil (S := S)
  refine AT_forget 0x3 (mkS 19 [(0, .sl 5 (a0.map Cell.enc) none), (1, .fn (.func 58) [] [.pt (Col.enc a1)])]) (by kernel_rfl) ?_
  refine zsr ?_
  refine seg 1 [0, 1] [] [] (by kernel_rfl) (by kernel_rfl) ?_
  refine zn ?_
  refine AT_seq ?_
  refine zsr ?_
  refine seg 2 [0, 1, 7] [(7, i64 ((a0.map Cell.enc).length : Int))] [2] (by kernel_rfl) (by kernel_rfl) ?_
  refine tod 7 (i64 ((a0.map Cell.enc).length : Int)) (i64 (a0.length : Int)) (by kernel_rfl) (by rw [List.length_map]) ?_
  refine seg 1 [0, 1, 7, 8] [(8, i64 0)] [] (by kernel_rfl) (by kernel_rfl) ?_
  refine zn ?_
  refine AT_block ?_
  refine AT_loopM 0x183 (fun k_ sl_ S_ => k_ ≤ k ∧ ∃ (x1 : Int), LeL sl_ (mkS 19 [(0, .sl 5 (a0.map Cell.enc) none), (1, .fn (.func 58) [] [.pt (Col.enc a1)]), (7, i64 (a0.length : Int)), (8, i64 x1)]) ∧ slices_IndexFunc_api_Cell_s0.l0 k_ a0 a1 x1 = some r ∧ Own S [] S_ []) k ⟨Nat.le_refl _, 0, (le_rf (by kernel_rfl)), h, hh⟩ ?_
  clear hh h
  rintro k' sl_ S_ ⟨hk_, x1, hl_, h, hh⟩
  refine AT_weaken hl_ ?_
  obtain _ | k1 := k'
  · cases h
  rw [slices_IndexFunc_api_Cell_s0.l0] at h
  refine zsr ?_
  refine seg 1 [0, 1, 7, 8, 9] [(9, bo (decide (x1 < (a0.length : Int))))] [] (by kernel_rfl) (by kernel_rfl) ?_
  refine zn ?_
  refine AT_seq ?_
  refine AT_condR (decide (x1 < (a0.length : Int))) (by kernel_rfl) (fun hc1 => ?_) (fun hc1 => ?_)
  · rw [if_f hc1] at h
    refine AT_exit ?_
    refine athen_e ?_
    refine athen_e ?_
    refine ablock_h ?_
    refine athen_n ?_
    refine zsr ?_
    refine seg 1 [4] [(4, i64 (-1))] [] (by kernel_rfl) (by kernel_rfl) ?_
    refine zn ?_
    refine AT_ret ?_
    have e_ := Option.some.inj h
    subst e_
    exact ⟨[i64 (-1)], _, S_, (.of (by kernel_rfl)), D.le.refl _, Store.le.refl _, rfl, hh⟩
  rw [if_t hc1] at h
  refine zkn ?_
  refine AT_seq ?_
  refine AT_block ?_
  refine zsr ?_
  refine seg 2 [0, 1, 5, 7, 8] [(5, i64 x1)] [] (by kernel_rfl) (by kernel_rfl) ?_
  refine znsr ?_
  obtain ⟨hi2, h⟩ := is h
  refine segc 4 [0, 1, 5, 7, 8, 11, 14] [(11, .fn (.func 58) [] [.pt (Col.enc a1)]), (14, .pt ((a0.map Cell.enc).getD (x1 : Int).toNat []))] (0 ≤ x1 ∧ x1 < ((a0.map Cell.enc).length : Int)) [4, 5] (by kernel_rfl) (by kernel_rfl) (idx_ok hi2) ?_
  refine tod 14 (.pt ((a0.map Cell.enc).getD (x1 : Int).toNat [])) (.pt (Cell.enc (rd a0 x1 Cell.zero))) (by kernel_rfl) (by rw [pt_rd Cell.enc a0 x1 Cell.zero hi2.1 hi2.2]) ?_
  refine seg 1 [0, 1, 5, 7, 8, 11, 15] [(15, .ag (Cell.enc (rd a0 x1 Cell.zero)))] [5] (by kernel_rfl) (by kernel_rfl) ?_
  obtain ⟨v1, ht1, h⟩ := bs h
  refine AOps_callR _ [.ag (Cell.enc (rd a0 x1 Cell.zero)), .pt (Col.enc a1)] (tl_get rfl) rfl rfl rfl rfl Try.func58 (by decide) rfl ((.cons (D.le.refl _) (.cons (D.le.refl _) (.nil)))) (plain_right_c1_s0.ok _ (rd a0 x1 Cell.zero) a1 _  _ ht1) ?_
  rintro _ S_ ⟨rfl, h2_⟩
  replace hh := hh.call0 h2_
  refine fg [0, 1, 5, 7, 8, 16] ?_
  refine zn ?_
  refine AT_condR v1 (by kernel_rfl) (fun hc2 => ?_) (fun hc2 => ?_)
  · rw [if_f hc2] at h
    refine AT_skip ?_
    refine ablock_n ?_
    refine athen_n ?_
    refine AT_region ?_
    refine seg 2 [0, 1, 7, 8] [(8, i64 (IntKind.wrap .i64 (x1 + 1)))] [] (by kernel_rfl) (by kernel_rfl) ?_
    refine zn ?_
    exact ⟨k1, (by omega), (by omega), IntKind.wrap .i64 (x1 + 1), (le_rf (by kernel_rfl)), h, hh⟩
  rw [if_t hc2] at h
  refine zsr ?_
  refine seg 2 [4] [(4, i64 x1)] [] (by kernel_rfl) (by kernel_rfl) ?_
  refine zn ?_
  refine AT_ret ?_
  refine ablock_r ?_
  refine athen_r ?_
  refine athen_r ?_
  refine ablock_r ?_
  refine athen_r ?_
  have e_ := Option.some.inj h
  subst e_
  exact ⟨[i64 x1], _, S_, (.of (by kernel_rfl)), D.le.refl _, Store.le.refl _, rfl, hh⟩
def slices_ContainsFunc_api_Cell_s0.f (k : Nat) (a0 : (List Cell)) (a1 : Col) : Option (Bool) := (slices_IndexFunc_api_Cell_s0.f k a0 a1).bind fun v1 => (some (decide (v1 ≥ 0)))
theorem slices_ContainsFunc_api_Cell_s0.mono (k : Nat) (a0 : (List Cell)) (a1 : Col) : LeO (slices_ContainsFunc_api_Cell_s0.f k a0 a1) (slices_ContainsFunc_api_Cell_s0.f (k + 1) a0 a1) := by
  unfold slices_ContainsFunc_api_Cell_s0.f
  repeat' first
    | exact LeO.refl _
    | exact LeO.none _
    | exact slices_IndexFunc_api_Cell_s0.mono _ _ _
    | refine LeO.ite ?_ ?_
    | refine LeO.bind ?_ (fun _ => ?_)
theorem slices_ContainsFunc_api_Cell_s0.ok (k : Nat) (a0 : (List Cell)) (a1 : Col) (S : Store) (r : Bool) (h : slices_ContainsFunc_api_Cell_s0.f k a0 a1 = some r) : ACalls Try.prog 57 [.sl 5 (a0.map Cell.enc) none, .fn (.func 58) [] [.pt (Col.enc a1)]] S (fun r_ S_ => r_ = bo r ∧ Own S [] S_ []) := by
  unfold slices_ContainsFunc_api_Cell_s0.f at h
  refine acalls_of Try.func57 rfl ?_
  have hh := Own.nil (S := S)
  refine AT_forget 0x3 (mkS 9 [(0, .sl 5 (a0.map Cell.enc) none), (1, .fn (.func 58) [] [.pt (Col.enc a1)])]) (by kernel_rfl) ?_
  refine zsr ?_
  refine seg 1 [0, 1] [] [] (by kernel_rfl) (by kernel_rfl) ?_
  refine znsr ?_
  refine seg 2 [5, 6] [(5, .sl 5 (a0.map Cell.enc) none), (6, .fn (.func 58) [] [.pt (Col.enc a1)])] [2, 3, 4] (by kernel_rfl) (by kernel_rfl) ?_
  obtain ⟨v1, ht1, h⟩ := bs h
  refine AOps_callR _ [.sl 5 (a0.map Cell.enc) none, .fn (.func 58) [] [.pt (Col.enc a1)]] (tl_get rfl) rfl rfl rfl rfl Try.func74 (by decide) rfl ((.cons (D.le.refl _) (.cons (D.le.refl _) (.nil)))) (slices_IndexFunc_api_Cell_s0.ok _ a0 a1 _  _ ht1) ?_
  rintro _ S_ ⟨rfl, h2_⟩
  replace hh := hh.call0 h2_
  refine fg [7] ?_
  refine seg 2 [4] [(4, bo (decide (v1 ≥ 0)))] [] (by kernel_rfl) (by kernel_rfl) ?_
  refine zn ?_
  refine AT_ret ?_
  have e_ := Option.some.inj h
  subst e_
  exact ⟨[bo (decide (v1 ≥ 0))], _, S_, (.of (by kernel_rfl)), D.le.refl _, Store.le.refl _, rfl, hh⟩
def plain_right.j0 : Nat → Int → (List Cell) → Bool → Option (Bool)
  | 0, _, _, _ => none
  | k + 1, a0, a1, x1 => if x1 = true then (if (decide ((a1.length : Int) ≤ 65536)) = true then ((slices_ContainsFunc_api_Cell_s0.f k a1 (⟨[], a0, false⟩ : Col)).bind fun v1 => (some (!v1))) else (some false)) else (some false)
def plain_right.f (k : Nat) (a0 : Int) (a1 : (List Cell)) : Option (Bool) := if (decide (a0 ≥ 0)) = true then (plain_right.j0 k a0 a1 (decide (a0 ≤ 3))) else (plain_right.j0 k a0 a1 false)
theorem plain_right.mono_l : ∀ k, (∀ y0 y1 y2, LeO (plain_right.j0 k y0 y1 y2) (plain_right.j0 (k + 1) y0 y1 y2))
  | 0 => fun _ _ _ r h => (by simp only [plain_right.j0] at h; cases h)
  | k + 1 => by
    have ih := plain_right.mono_l k
    · intro y0 y1 y2
      rw [plain_right.j0, plain_right.j0]
      repeat' first
        | exact LeO.refl _
        | exact LeO.none _
        | exact ih _ _ _
        | exact slices_ContainsFunc_api_Cell_s0.mono _ _ _
        | refine LeO.ite ?_ ?_
        | refine LeO.bind ?_ (fun _ => ?_)
theorem plain_right.mono (k : Nat) (a0 : Int) (a1 : (List Cell)) : LeO (plain_right.f k a0 a1) (plain_right.f (k + 1) a0 a1) := by
  unfold plain_right.f
  repeat' first
    | exact LeO.refl _
    | exact LeO.none _
    | exact (plain_right.mono_l k) _ _ _
    | exact slices_ContainsFunc_api_Cell_s0.mono _ _ _
    | refine LeO.ite ?_ ?_
    | refine LeO.bind ?_ (fun _ => ?_)
theorem plain_right.ok (k : Nat) (a0 : Int) (a1 : (List Cell)) (S : Store) (r : Bool) (h : plain_right.f k a0 a1 = some r) : ACalls Try.prog 44 [i64 a0, .sl 5 (a1.map Cell.enc) none] S (fun r_ S_ => r_ = bo r ∧ Own S [] S_ []) := by
  unfold plain_right.f at h
  refine acalls_of Try.func44 rfl ?_
  have hh := Own.nil (S := S)
  refine AT_forget 0x3 (mkS 27 [(0, i64 a0), (1, .sl 5 (a1.map Cell.enc) none)]) (by kernel_rfl) ?_
  refine zsr ?_
  refine seg 1 [0, 1] [] [] (by kernel_rfl) (by kernel_rfl) ?_
  refine znsr ?_
  refine seg 2 [0, 1, 8] [(8, .ag [str [], i64 a0, bo false])] [2, 3] (by kernel_rfl) (by kernel_rfl) ?_
  refine AOps_newvar (zs := [str [], i64 0, bo false]) (ds := [str [], i64 a0, bo false]) (d := 5) (tl_get rfl) rfl rfl rfl (by kernel_rfl) (by kernel_rfl) (tl_get rfl) (fun _ => rfl) rfl rfl (fun _ => rfl) rfl (by kernel_rfl) (by kernel_rfl) ?_
  refine AOps_forget 0x23 (mkS 27 [(0, i64 a0), (1, .sl 5 (a1.map Cell.enc) none), (5, .pt [str [], i64 a0, bo false])]) (by kernel_rfl) ?_
  refine zn ?_
  refine AT_cutM 0x62 (fun sl_ S_ => ∃ (k_ : Nat), k_ ≤ k ∧ ∃ (x1 : Bool), LeL sl_ (mkS 27 [(1, .sl 5 (a1.map Cell.enc) none), (5, .pt [str [], i64 a0, bo false]), (6, bo x1)]) ∧ plain_right.j0 k_ a0 a1 x1 = some r ∧ Own S [] S_ []) ?_ ?_
  · refine AT_region ?_
    refine seg 3 [0, 1, 5, 11] [(11, bo (decide (a0 ≥ 0)))] [3, 4, 5, 6] (by kernel_rfl) (by kernel_rfl) ?_
    refine cased 11 (decide (a0 ≥ 0)) (by kernel_rfl) (fun hc2 => ?_) (fun hc2 => ?_)
    · rw [if_t hc2] at h
      refine seg 4 [1, 5, 6] [(6, bo (decide (a0 ≤ 3)))] [] (by kernel_rfl) (by kernel_rfl) ?_
      refine zn ?_
      exact ⟨k, (by omega), decide (a0 ≤ 3), (le_rf (by kernel_rfl)), h, hh⟩
    rw [if_f hc2] at h
    refine seg 4 [1, 5, 6] [(6, bo false)] [] (by kernel_rfl) (by kernel_rfl) ?_
    refine zn ?_
    exact ⟨k, (by omega), false, (le_rf (by kernel_rfl)), h, hh⟩
  clear h hh
  rintro sl_ S_ ⟨k', hk_, x1, hl_, h, hh⟩
  refine AT_weaken hl_ ?_
  obtain _ | k1 := k'
  · cases h
  rw [plain_right.j0] at h
  refine zsr ?_
  refine seg 2 [1, 5, 16] [(16, bo x1)] [2, 3, 4, 5, 6, 7, 8, 9, 10, 11, 12] (by kernel_rfl) (by kernel_rfl) ?_
  refine casedR 16 x1 (by kernel_rfl) (fun hc3 => ?_) (fun hc3 => ?_)
  · rw [if_f hc3] at h
    refine seg 11 [4] [(4, bo false)] [] (by kernel_rfl) (by kernel_rfl) ?_
    refine zn ?_
    refine AT_ret ?_
    have e_ := Option.some.inj h
    subst e_
    exact ⟨[bo false], _, S_, (.of (by kernel_rfl)), D.le.refl _, Store.le.refl _, rfl, hh⟩
  rw [if_t hc3] at h
  refine seg 2 [1, 5, 16, 18] [(18, i64 ((a1.map Cell.enc).length : Int))] [4, 5, 6, 7, 8, 9, 10, 11, 12] (by kernel_rfl) (by kernel_rfl) ?_
  refine tod 18 (i64 ((a1.map Cell.enc).length : Int)) (i64 (a1.length : Int)) (by kernel_rfl) (by rw [List.length_map]) ?_
  refine seg 3 [1, 5, 21] [(21, bo (decide ((a1.length : Int) ≤ 65536)))] [7, 8, 9, 10, 11, 12] (by kernel_rfl) (by kernel_rfl) ?_
  refine casedR 21 (decide ((a1.length : Int) ≤ 65536)) (by kernel_rfl) (fun hc4 => ?_) (fun hc4 => ?_)
  · rw [if_f hc4] at h
    refine seg 6 [4] [(4, bo false)] [] (by kernel_rfl) (by kernel_rfl) ?_
    refine zn ?_
    refine AT_ret ?_
    have e_ := Option.some.inj h
    subst e_
    exact ⟨[bo false], _, S_, (.of (by kernel_rfl)), D.le.refl _, Store.le.refl _, rfl, hh⟩
  rw [if_t hc4] at h
  refine seg 2 [21, 22, 23] [(22, .sl 5 (a1.map Cell.enc) none), (23, .fn (.func 58) [] [.pt [str [], i64 a0, bo false]])] [9, 10, 11, 12] (by kernel_rfl) (by kernel_rfl) ?_
  obtain ⟨v1, ht1, h⟩ := bs h
  refine AOps_callR _ [.sl 5 (a1.map Cell.enc) none, .fn (.func 58) [] [.pt (Col.enc (⟨[], a0, false⟩ : Col))]] (tl_get rfl) rfl rfl rfl rfl Try.func57 (by decide) rfl ((.cons (D.le.refl _) (.cons (D.le.refl _) (.nil)))) (slices_ContainsFunc_api_Cell_s0.ok _ a1 (⟨[], a0, false⟩ : Col) _  _ ht1) ?_
  rintro _ S_ ⟨rfl, h2_⟩
  replace hh := hh.call0 h2_
  refine fg [21, 24] ?_
  refine seg 3 [4] [(4, bo (!v1))] [] (by kernel_rfl) (by kernel_rfl) ?_
  refine zn ?_
  refine AT_ret ?_
  have e_ := Option.some.inj h
  subst e_
  exact ⟨[bo (!v1)], _, S_, (.of (by kernel_rfl)), D.le.refl _, Store.le.refl _, rfl, hh⟩
end Go.Proofs.Ytfaojkajlpojlaa.Abs
