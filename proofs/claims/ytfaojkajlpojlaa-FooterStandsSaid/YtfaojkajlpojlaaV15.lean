/- What functions of the program compute, each with the proof that it does (printed by wip/gen/all2.py). -/
import Derived.Test.YtfaojkajlpojlaaV14
import Derived.KernelRfl
namespace Go.Proofs.Ytfaojkajlpojlaa.Abs
open Go
set_option maxRecDepth 100000
def law19_small.f (k : Nat)  : Option (Bool) := (footer_Encode.f k (⟨([(⟨[97], 0, false⟩ : Col)] : List Col), 3, ([(⟨3, ([([(⟨5, 2, (⟨0, true, (⟨false, 1, [], (⟨0, 0⟩ : Point)⟩ : Cell), (⟨false, 2, [], (⟨0, 0⟩ : Point)⟩ : Cell)⟩ : Stat)⟩ : PageInfo), (⟨7, 1, (⟨0, true, (⟨false, 1, [], (⟨0, 0⟩ : Point)⟩ : Cell), (⟨false, 2, [], (⟨0, 0⟩ : Point)⟩ : Cell)⟩ : Stat)⟩ : PageInfo)] : List PageInfo)] : List (List PageInfo))⟩ : Group)] : List Group)⟩ : Footer)).bind fun q_v1 => ((footer_Decode.f k q_v1.1).bind fun q_v3 => ((footer_Spans.f k (⟨([(⟨[97], 0, false⟩ : Col)] : List Col), 3, ([(⟨3, ([([(⟨5, 2, (⟨0, true, (⟨false, 1, [], (⟨0, 0⟩ : Point)⟩ : Cell), (⟨false, 2, [], (⟨0, 0⟩ : Point)⟩ : Cell)⟩ : Stat)⟩ : PageInfo), (⟨7, 1, (⟨0, true, (⟨false, 1, [], (⟨0, 0⟩ : Point)⟩ : Cell), (⟨false, 2, [], (⟨0, 0⟩ : Point)⟩ : Cell)⟩ : Stat)⟩ : PageInfo)] : List PageInfo)] : List (List PageInfo))⟩ : Group)] : List Group)⟩ : Footer) 0 0).bind fun v5 => ((footer_Encode.f k (⟨[], 0, []⟩ : Footer)).bind fun q_v6 => (if (([] : List UInt8).length + q_v1.1.length) * 1 ≤ 140737488355328 then (if ((([] : List UInt8) ++ q_v1.1).length + 1) * 1 ≤ 140737488355328 then ((footer_Decode.f k ((([] : List UInt8) ++ q_v1.1) ++ ([0] : List UInt8))).bind fun q_v8 => (if ((v5.length : Int) != 2) = true then (some false) else (if (decide ((q_v1.1.length : Int) < 9)) = true then (some false) else (if q_v1.2 = true then (if 0 ≤ (9 : Int) ∧ (9 : Int) ≤ (q_v1.1.length : Int) then (if ((q_v1.1.take (9 : Int).toNat) == [1, 1, 97, 0, 0, 3, 1, 3, 2]) = true then (if q_v3.2 = true then ((ref19_Same.f k (⟨([(⟨[97], 0, false⟩ : Col)] : List Col), 3, ([(⟨3, ([([(⟨5, 2, (⟨0, true, (⟨false, 1, [], (⟨0, 0⟩ : Point)⟩ : Cell), (⟨false, 2, [], (⟨0, 0⟩ : Point)⟩ : Cell)⟩ : Stat)⟩ : PageInfo), (⟨7, 1, (⟨0, true, (⟨false, 1, [], (⟨0, 0⟩ : Point)⟩ : Cell), (⟨false, 2, [], (⟨0, 0⟩ : Point)⟩ : Cell)⟩ : Stat)⟩ : PageInfo)] : List PageInfo)] : List (List PageInfo))⟩ : Group)] : List Group)⟩ : Footer) q_v3.1).bind fun v10 => (if v10 = true then (if 0 ≤ (1 : Int) ∧ (1 : Int) < (v5.length : Int) then (if ((((rd v5 1 Span.zero).From) == 2) && ((((rd v5 1 Span.zero).To) == 3) && true)) = true then (if (q_v6.1 == [0, 0, 0]) = true then (if q_v6.2 = true then (if (!q_v8.2) = true then ((footer_Place.f k (⟨([(⟨[97], 0, false⟩ : Col)] : List Col), 3, ([(⟨3, ([([(⟨5, 2, (⟨0, true, (⟨false, 1, [], (⟨0, 0⟩ : Point)⟩ : Cell), (⟨false, 2, [], (⟨0, 0⟩ : Point)⟩ : Cell)⟩ : Stat)⟩ : PageInfo), (⟨7, 1, (⟨0, true, (⟨false, 1, [], (⟨0, 0⟩ : Point)⟩ : Cell), (⟨false, 2, [], (⟨0, 0⟩ : Point)⟩ : Cell)⟩ : Stat)⟩ : PageInfo)] : List PageInfo)] : List (List PageInfo))⟩ : Group)] : List Group)⟩ : Footer) 0 0 1).bind fun v11 => (if (v11 == 5) = true then ((footer_Place.f k (⟨([(⟨[97], 0, false⟩ : Col)] : List Col), 3, ([(⟨3, ([([(⟨5, 2, (⟨0, true, (⟨false, 1, [], (⟨0, 0⟩ : Point)⟩ : Cell), (⟨false, 2, [], (⟨0, 0⟩ : Point)⟩ : Cell)⟩ : Stat)⟩ : PageInfo), (⟨7, 1, (⟨0, true, (⟨false, 1, [], (⟨0, 0⟩ : Point)⟩ : Cell), (⟨false, 2, [], (⟨0, 0⟩ : Point)⟩ : Cell)⟩ : Stat)⟩ : PageInfo)] : List PageInfo)] : List (List PageInfo))⟩ : Group)] : List Group)⟩ : Footer) 1 0 0).bind fun v12 => (if (v12 == 12) = true then ((footer_Place.f k (⟨([(⟨[97], 0, false⟩ : Col)] : List Col), 3, ([(⟨3, ([([(⟨5, 2, (⟨0, true, (⟨false, 1, [], (⟨0, 0⟩ : Point)⟩ : Cell), (⟨false, 2, [], (⟨0, 0⟩ : Point)⟩ : Cell)⟩ : Stat)⟩ : PageInfo), (⟨7, 1, (⟨0, true, (⟨false, 1, [], (⟨0, 0⟩ : Point)⟩ : Cell), (⟨false, 2, [], (⟨0, 0⟩ : Point)⟩ : Cell)⟩ : Stat)⟩ : PageInfo)] : List PageInfo)] : List (List PageInfo))⟩ : Group)] : List Group)⟩ : Footer) 0 0 2).bind fun v13 => (if (v13 == (-1)) = true then ((footer_Right.f k (⟨([(⟨[97], 0, false⟩ : Col)] : List Col), 3, ([(⟨3, ([([(⟨5, 2, (⟨0, true, (⟨false, 1, [], (⟨0, 0⟩ : Point)⟩ : Cell), (⟨false, 2, [], (⟨0, 0⟩ : Point)⟩ : Cell)⟩ : Stat)⟩ : PageInfo), (⟨7, 1, (⟨0, true, (⟨false, 1, [], (⟨0, 0⟩ : Point)⟩ : Cell), (⟨false, 2, [], (⟨0, 0⟩ : Point)⟩ : Cell)⟩ : Stat)⟩ : PageInfo)] : List PageInfo)] : List (List PageInfo))⟩ : Group)] : List Group)⟩ : Footer)).bind fun v14 => (if v14 = true then ((footer_Right.f k (⟨[], 1, []⟩ : Footer)).bind fun v15 => (some (!v15))) else (some false))) else (some false))) else (some false))) else (some false))) else (some false)) else (some false)) else (some false)) else (some false)) else none) else (some false))) else (some false)) else (some false)) else none) else (some false))))) else none) else none))))
theorem law19_small.mono (k : Nat)  : LeO (law19_small.f k) (law19_small.f (k + 1)) := by
  unfold law19_small.f
  repeat' first
    | exact LeO.refl _
    | exact LeO.none _
    | exact footer_Decode.mono _ _
    | exact footer_Encode.mono _ _
    | exact footer_Place.mono _ _ _ _ _
    | exact footer_Right.mono _ _
    | exact footer_Spans.mono _ _ _ _
    | exact ref19_Same.mono _ _ _
    | refine LeO.ite ?_ ?_
    | refine LeO.bind ?_ (fun _ => ?_)
theorem law19_small.ok (k : Nat)  (S : Store) (r : Bool) (h : law19_small.f k  = some r) : ACalls Try.prog 4 [] S (fun r_ S_ => r_ = bo r ∧ Own S [] S_ []) := by
  unfold law19_small.f at h
  refine acalls_of Try.func4 rfl ?_
  have hh := Own.nil (S := S)
  refine AT_forget 0x0 (mkS 118 []) (by kernel_rfl) ?_
  refine zsr ?_
  refine seg 1 [] [] [] (by kernel_rfl) (by kernel_rfl) ?_
  refine znsr ?_
  refine seg 3 [14] [(14, .ag [i64 0, bo true, bo false, i64 1, str [], i64 0, i64 0, bo false, i64 2, str [], i64 0, i64 0])] [3, 4] (by kernel_rfl) (by kernel_rfl) ?_
  refine AOps_newvar (zs := [i64 0, bo false, bo false, i64 0, str [], i64 0, i64 0, bo false, i64 0, str [], i64 0, i64 0]) (ds := [i64 0, bo true, bo false, i64 1, str [], i64 0, i64 0, bo false, i64 2, str [], i64 0, i64 0]) (d := 1) (tl_get rfl) rfl rfl rfl (by kernel_rfl) (by kernel_rfl) (tl_get rfl) (fun _ => rfl) rfl rfl (fun _ => rfl) rfl (by kernel_rfl) (by kernel_rfl) ?_
  refine AOps_forget 0x2 (mkS 118 [(1, .pt [i64 0, bo true, bo false, i64 1, str [], i64 0, i64 0, bo false, i64 2, str [], i64 0, i64 0])]) (by kernel_rfl) ?_
  refine znsr ?_
  refine seg 1 [1, 15] [(15, .ag [str [97], i64 0, bo false])] [1, 2, 3, 4, 5, 6, 7, 8, 9, 10, 11, 12] (by kernel_rfl) (by kernel_rfl) ?_
  refine AOps_litU (sz := 3) (es := [[str [97], i64 0, bo false]]) (tl_get rfl) rfl rfl rfl (by kernel_rfl) (by decide) (by kernel_rfl) (by decide) (by kernel_rfl) (by kernel_rfl) (by intro x hx; simp only [List.mem_cons, List.not_mem_nil, or_false] at hx; rcases hx with rfl <;> rfl) (fun S_ t1 hf_ u_ => ?_)
  replace hh := hh.tkN' hf_ u_ (n := (([(⟨[97], 0, false⟩ : Col)] : List Col)).length) (by first | rfl | (simp [bytesD_len]; done) | (simp [bytesD_len]; omega))
  refine fg [1, 16] ?_
  refine seg 4 [16, 18, 20] [(18, .ag [i64 5, i64 2, i64 0, bo true, bo false, i64 1, str [], i64 0, i64 0, bo false, i64 2, str [], i64 0, i64 0]), (20, .ag [i64 7, i64 1, i64 0, bo true, bo false, i64 1, str [], i64 0, i64 0, bo false, i64 2, str [], i64 0, i64 0])] [6, 7, 8, 9, 10, 11, 12] (by kernel_rfl) (by kernel_rfl) ?_
  refine AOps_litU (sz := 14) (es := [[i64 5, i64 2, i64 0, bo true, bo false, i64 1, str [], i64 0, i64 0, bo false, i64 2, str [], i64 0, i64 0], [i64 7, i64 1, i64 0, bo true, bo false, i64 1, str [], i64 0, i64 0, bo false, i64 2, str [], i64 0, i64 0]]) (tl_get rfl) rfl rfl rfl (by kernel_rfl) (by decide) (by kernel_rfl) (by decide) (by kernel_rfl) (by kernel_rfl) (by intro x hx; simp only [List.mem_cons, List.not_mem_nil, or_false] at hx; rcases hx with rfl | rfl <;> rfl) (fun S_ t2 hf_ u_ => ?_)
  replace hh := hh.tkN' hf_ u_ (n := (([(⟨5, 2, (⟨0, true, (⟨false, 1, [], (⟨0, 0⟩ : Point)⟩ : Cell), (⟨false, 2, [], (⟨0, 0⟩ : Point)⟩ : Cell)⟩ : Stat)⟩ : PageInfo), (⟨7, 1, (⟨0, true, (⟨false, 1, [], (⟨0, 0⟩ : Point)⟩ : Cell), (⟨false, 2, [], (⟨0, 0⟩ : Point)⟩ : Cell)⟩ : Stat)⟩ : PageInfo)] : List PageInfo)).length) (by first | rfl | (simp [bytesD_len]; done) | (simp [bytesD_len]; omega))
  refine fg [16, 21] ?_
  refine AOps_weaken (le_eq (b := mkS 118 [(16, .sl 3 [[str [97], i64 0, bo false]] (some t1)), (21, .sl 14 [[i64 5, i64 2, i64 0, bo true, bo false, i64 1, str [], i64 0, i64 0, bo false, i64 2, str [], i64 0, i64 0], [i64 7, i64 1, i64 0, bo true, bo false, i64 1, str [], i64 0, i64 0, bo false, i64 2, str [], i64 0, i64 0]] (some t2))]) (by kernel_rfl) (mkS_le (.cons (D.le.refl _) (.cons (sl_le) .nil)))) ?_
  refine AOps_litU (sz := 1) (es := [[.sl 14 [[i64 5, i64 2, i64 0, bo true, bo false, i64 1, str [], i64 0, i64 0, bo false, i64 2, str [], i64 0, i64 0], [i64 7, i64 1, i64 0, bo true, bo false, i64 1, str [], i64 0, i64 0, bo false, i64 2, str [], i64 0, i64 0]] none]]) (tl_get rfl) rfl rfl rfl (by kernel_rfl) (by decide) (by kernel_rfl) (by decide) (by kernel_rfl) (by kernel_rfl) (by intro x hx; simp only [List.mem_cons, List.not_mem_nil, or_false] at hx; rcases hx with rfl <;> rfl) (fun S_ t3 hf_ u_ => ?_)
  replace hh := hh.tkN' hf_ u_ (n := (([([(⟨5, 2, (⟨0, true, (⟨false, 1, [], (⟨0, 0⟩ : Point)⟩ : Cell), (⟨false, 2, [], (⟨0, 0⟩ : Point)⟩ : Cell)⟩ : Stat)⟩ : PageInfo), (⟨7, 1, (⟨0, true, (⟨false, 1, [], (⟨0, 0⟩ : Point)⟩ : Cell), (⟨false, 2, [], (⟨0, 0⟩ : Point)⟩ : Cell)⟩ : Stat)⟩ : PageInfo)] : List PageInfo)] : List (List PageInfo))).length) (by first | rfl | (simp [bytesD_len]; done) | (simp [bytesD_len]; omega))
  refine fg [16, 22] ?_
  refine seg 1 [16, 23] [(23, .ag [i64 3, .sl 1 [[.sl 14 [[i64 5, i64 2, i64 0, bo true, bo false, i64 1, str [], i64 0, i64 0, bo false, i64 2, str [], i64 0, i64 0], [i64 7, i64 1, i64 0, bo true, bo false, i64 1, str [], i64 0, i64 0, bo false, i64 2, str [], i64 0, i64 0]] none]] (some t3)])] [9, 10, 11, 12] (by kernel_rfl) (by kernel_rfl) ?_
  refine AOps_weaken (le_eq (b := mkS 118 [(16, .sl 3 [[str [97], i64 0, bo false]] (some t1)), (23, .ag [i64 3, .sl 1 [[.sl 14 [[i64 5, i64 2, i64 0, bo true, bo false, i64 1, str [], i64 0, i64 0, bo false, i64 2, str [], i64 0, i64 0], [i64 7, i64 1, i64 0, bo true, bo false, i64 1, str [], i64 0, i64 0, bo false, i64 2, str [], i64 0, i64 0]] none]] (some t3)])]) (by kernel_rfl) (mkS_le (.cons (D.le.refl _) (.cons ((ag_le (.cons (D.le.refl _) (.cons (sl_le) (.nil))))) .nil)))) ?_
  refine AOps_litU (sz := 2) (es := [[i64 3, .sl 1 [[.sl 14 [[i64 5, i64 2, i64 0, bo true, bo false, i64 1, str [], i64 0, i64 0, bo false, i64 2, str [], i64 0, i64 0], [i64 7, i64 1, i64 0, bo true, bo false, i64 1, str [], i64 0, i64 0, bo false, i64 2, str [], i64 0, i64 0]] none]] none]]) (tl_get rfl) rfl rfl rfl (by kernel_rfl) (by decide) (by kernel_rfl) (by decide) (by kernel_rfl) (by kernel_rfl) (by intro x hx; simp only [List.mem_cons, List.not_mem_nil, or_false] at hx; rcases hx with rfl <;> rfl) (fun S_ t4 hf_ u_ => ?_)
  replace hh := hh.tkN' hf_ u_ (n := (([(⟨3, ([([(⟨5, 2, (⟨0, true, (⟨false, 1, [], (⟨0, 0⟩ : Point)⟩ : Cell), (⟨false, 2, [], (⟨0, 0⟩ : Point)⟩ : Cell)⟩ : Stat)⟩ : PageInfo), (⟨7, 1, (⟨0, true, (⟨false, 1, [], (⟨0, 0⟩ : Point)⟩ : Cell), (⟨false, 2, [], (⟨0, 0⟩ : Point)⟩ : Cell)⟩ : Stat)⟩ : PageInfo)] : List PageInfo)] : List (List PageInfo))⟩ : Group)] : List Group)).length) (by first | rfl | (simp [bytesD_len]; done) | (simp [bytesD_len]; omega))
  refine fg [16, 24] ?_
  refine seg 1 [25] [(25, .ag [.sl 3 [[str [97], i64 0, bo false]] (some t1), i64 3, .sl 2 [[i64 3, .sl 1 [[.sl 14 [[i64 5, i64 2, i64 0, bo true, bo false, i64 1, str [], i64 0, i64 0, bo false, i64 2, str [], i64 0, i64 0], [i64 7, i64 1, i64 0, bo true, bo false, i64 1, str [], i64 0, i64 0, bo false, i64 2, str [], i64 0, i64 0]] none]] none]] (some t4)])] [11, 12] (by kernel_rfl) (by kernel_rfl) ?_
  refine AOps_newvar (zs := [nilS, i64 0, nilS]) (ds := [.sl 3 [[str [97], i64 0, bo false]] (some t1), i64 3, .sl 2 [[i64 3, .sl 1 [[.sl 14 [[i64 5, i64 2, i64 0, bo true, bo false, i64 1, str [], i64 0, i64 0, bo false, i64 2, str [], i64 0, i64 0], [i64 7, i64 1, i64 0, bo true, bo false, i64 1, str [], i64 0, i64 0, bo false, i64 2, str [], i64 0, i64 0]] none]] none]] (some t4)]) (d := 2) (tl_get rfl) rfl rfl rfl (by kernel_rfl) (by kernel_rfl) (tl_get rfl) (fun _ => rfl) rfl rfl (fun _ => rfl) rfl (by kernel_rfl) (by kernel_rfl) ?_
  refine AOps_forget 0x4 (mkS 118 [(2, .pt [.sl 3 [[str [97], i64 0, bo false]] (some t1), i64 3, .sl 2 [[i64 3, .sl 1 [[.sl 14 [[i64 5, i64 2, i64 0, bo true, bo false, i64 1, str [], i64 0, i64 0, bo false, i64 2, str [], i64 0, i64 0], [i64 7, i64 1, i64 0, bo true, bo false, i64 1, str [], i64 0, i64 0, bo false, i64 2, str [], i64 0, i64 0]] none]] none]] (some t4)])]) (by kernel_rfl) ?_
  refine znsr ?_
  refine seg 1 [2, 27] [(27, .ag [.sl 3 [[str [97], i64 0, bo false]] (some t1), i64 3, .sl 2 [[i64 3, .sl 1 [[.sl 14 [[i64 5, i64 2, i64 0, bo true, bo false, i64 1, str [], i64 0, i64 0, bo false, i64 2, str [], i64 0, i64 0], [i64 7, i64 1, i64 0, bo true, bo false, i64 1, str [], i64 0, i64 0, bo false, i64 2, str [], i64 0, i64 0]] none]] none]] (some t4)])] [1, 2, 3, 4, 5, 6] (by kernel_rfl) (by kernel_rfl) ?_
  obtain ⟨⟨v1, v2⟩, ht1, h⟩ := bs h
  simp only at h
  refine AOps_callR _ [.ag (Footer.enc (⟨([(⟨[97], 0, false⟩ : Col)] : List Col), 3, ([(⟨3, ([([(⟨5, 2, (⟨0, true, (⟨false, 1, [], (⟨0, 0⟩ : Point)⟩ : Cell), (⟨false, 2, [], (⟨0, 0⟩ : Point)⟩ : Cell)⟩ : Stat)⟩ : PageInfo), (⟨7, 1, (⟨0, true, (⟨false, 1, [], (⟨0, 0⟩ : Point)⟩ : Cell), (⟨false, 2, [], (⟨0, 0⟩ : Point)⟩ : Cell)⟩ : Stat)⟩ : PageInfo)] : List PageInfo)] : List (List PageInfo))⟩ : Group)] : List Group)⟩ : Footer))] (tl_get rfl) rfl rfl rfl rfl Try.func9 (by decide) rfl ((.cons ((ag_le (.cons (sl_le) (.cons (D.le.refl _) (.cons (sl_le) (.nil)))))) (.nil))) (footer_Encode.ok _ (⟨([(⟨[97], 0, false⟩ : Col)] : List Col), 3, ([(⟨3, ([([(⟨5, 2, (⟨0, true, (⟨false, 1, [], (⟨0, 0⟩ : Point)⟩ : Cell), (⟨false, 2, [], (⟨0, 0⟩ : Point)⟩ : Cell)⟩ : Stat)⟩ : PageInfo), (⟨7, 1, (⟨0, true, (⟨false, 1, [], (⟨0, 0⟩ : Point)⟩ : Cell), (⟨false, 2, [], (⟨0, 0⟩ : Point)⟩ : Cell)⟩ : Stat)⟩ : PageInfo)] : List PageInfo)] : List (List PageInfo))⟩ : Group)] : List Group)⟩ : Footer) _  _ _ ht1) ?_
  rintro _ S_ ⟨t5, rfl, h2_⟩
  replace hh := hh.calln h2_
  refine fg [2, 28] ?_
  refine seg 5 [2, 3, 4] [(3, .sl 1 (v1.map eB) (some t5)), (4, bo v2)] [] (by kernel_rfl) (by kernel_rfl) ?_
  refine znsr ?_
  refine seg 1 [2, 3, 4, 32] [(32, .sl 1 (v1.map eB) (some t5))] [1, 2, 3, 4, 5, 6, 7] (by kernel_rfl) (by kernel_rfl) ?_
  obtain ⟨⟨v3, v4⟩, ht2, h⟩ := bs h
  simp only at h
  refine AOps_callR _ [.sl 1 (v1.map eB) none] (tl_get rfl) rfl rfl rfl rfl Try.func10 (by decide) rfl ((.cons (sl_le) (.nil))) (footer_Decode.ok _ v1 _  _ _ ht2) ?_
  rintro _ S_ ⟨rfl, h2_⟩
  replace hh := hh.call0 h2_
  refine fg [2, 3, 4, 33] ?_
  refine seg 3 [2, 3, 4, 34, 35] [(34, .ag (Footer.enc v3)), (35, bo v4)] [5, 6, 7] (by kernel_rfl) (by kernel_rfl) ?_
  refine AOps_newvar (zs := [nilS, i64 0, nilS]) (ds := (Footer.enc v3)) (d := 5) (tl_get rfl) rfl rfl rfl (by kernel_rfl) (by kernel_rfl) (tl_get rfl) (fun _ => rfl) rfl rfl (fun _ => rfl) rfl (by kernel_rfl) (by kernel_rfl) ?_
  refine AOps_forget 0x80000003c (mkS 118 [(2, .pt [.sl 3 [[str [97], i64 0, bo false]] (some t1), i64 3, .sl 2 [[i64 3, .sl 1 [[.sl 14 [[i64 5, i64 2, i64 0, bo true, bo false, i64 1, str [], i64 0, i64 0, bo false, i64 2, str [], i64 0, i64 0], [i64 7, i64 1, i64 0, bo true, bo false, i64 1, str [], i64 0, i64 0, bo false, i64 2, str [], i64 0, i64 0]] none]] none]] (some t4)]), (3, .sl 1 (v1.map eB) (some t5)), (4, bo v2), (5, .pt (Footer.enc v3)), (35, bo v4)]) (by kernel_rfl) ?_
  refine seg 1 [2, 3, 4, 5, 6] [(6, bo v4)] [] (by kernel_rfl) (by kernel_rfl) ?_
  refine znsr ?_
  refine seg 1 [2, 3, 4, 5, 6, 36] [(36, .ag [.sl 3 [[str [97], i64 0, bo false]] (some t1), i64 3, .sl 2 [[i64 3, .sl 1 [[.sl 14 [[i64 5, i64 2, i64 0, bo true, bo false, i64 1, str [], i64 0, i64 0, bo false, i64 2, str [], i64 0, i64 0], [i64 7, i64 1, i64 0, bo true, bo false, i64 1, str [], i64 0, i64 0, bo false, i64 2, str [], i64 0, i64 0]] none]] none]] (some t4)])] [1, 2] (by kernel_rfl) (by kernel_rfl) ?_
  obtain ⟨v5, ht3, h⟩ := bs h
  refine AOps_callR _ [.ag (Footer.enc (⟨([(⟨[97], 0, false⟩ : Col)] : List Col), 3, ([(⟨3, ([([(⟨5, 2, (⟨0, true, (⟨false, 1, [], (⟨0, 0⟩ : Point)⟩ : Cell), (⟨false, 2, [], (⟨0, 0⟩ : Point)⟩ : Cell)⟩ : Stat)⟩ : PageInfo), (⟨7, 1, (⟨0, true, (⟨false, 1, [], (⟨0, 0⟩ : Point)⟩ : Cell), (⟨false, 2, [], (⟨0, 0⟩ : Point)⟩ : Cell)⟩ : Stat)⟩ : PageInfo)] : List PageInfo)] : List (List PageInfo))⟩ : Group)] : List Group)⟩ : Footer)), i64 0, i64 0] (tl_get rfl) rfl rfl rfl rfl Try.func7 (by decide) rfl ((.cons ((ag_le (.cons (sl_le) (.cons (D.le.refl _) (.cons (sl_le) (.nil)))))) (.cons (D.le.refl _) (.cons (D.le.refl _) (.nil))))) (footer_Spans.ok _ (⟨([(⟨[97], 0, false⟩ : Col)] : List Col), 3, ([(⟨3, ([([(⟨5, 2, (⟨0, true, (⟨false, 1, [], (⟨0, 0⟩ : Point)⟩ : Cell), (⟨false, 2, [], (⟨0, 0⟩ : Point)⟩ : Cell)⟩ : Stat)⟩ : PageInfo), (⟨7, 1, (⟨0, true, (⟨false, 1, [], (⟨0, 0⟩ : Point)⟩ : Cell), (⟨false, 2, [], (⟨0, 0⟩ : Point)⟩ : Cell)⟩ : Stat)⟩ : PageInfo)] : List PageInfo)] : List (List PageInfo))⟩ : Group)] : List Group)⟩ : Footer) 0 0 _  _ ht3) ?_
  rintro _ S_ ⟨t6, rfl, h2_⟩
  replace hh := hh.calln h2_
  refine fg [2, 3, 4, 5, 6, 37] ?_
  refine seg 1 [2, 3, 4, 5, 6, 7] [(7, .sl 2 (v5.map Span.enc) (some t6))] [] (by kernel_rfl) (by kernel_rfl) ?_
  refine znsr ?_
  refine seg 1 [2, 3, 4, 5, 6, 7, 39] [(39, .ag [nilS, i64 0, nilS])] [1, 2, 3, 4, 5, 6] (by kernel_rfl) (by kernel_rfl) ?_
  obtain ⟨⟨v6, v7⟩, ht4, h⟩ := bs h
  simp only at h
  refine AOps_callR _ [.ag (Footer.enc (⟨[], 0, []⟩ : Footer))] (tl_get rfl) rfl rfl rfl rfl Try.func9 (by decide) rfl ((.cons ((ag_le (.cons (nil_le) (.cons (D.le.refl _) (.cons (nil_le) (.nil)))))) (.nil))) (footer_Encode.ok _ (⟨[], 0, []⟩ : Footer) _  _ _ ht4) ?_
  rintro _ S_ ⟨t7, rfl, h2_⟩
  replace hh := hh.calln h2_
  refine fg [2, 3, 4, 5, 6, 7, 40] ?_
  refine seg 5 [2, 3, 4, 5, 6, 7, 8, 9] [(8, .sl 1 (v6.map eB) (some t7)), (9, bo v7)] [] (by kernel_rfl) (by kernel_rfl) ?_
  refine znsr ?_
  refine AOps_litU (sz := 1) (es := []) (tl_get rfl) rfl rfl rfl (by kernel_rfl) (by decide) (by kernel_rfl) (by decide) (by kernel_rfl) (by kernel_rfl) (by intro x hx; cases hx) (fun S_ t8 hf_ u_ => ?_)
  replace hh := hh.tkN' hf_ u_ (n := (([] : List UInt8)).length) (by first | rfl | (simp [bytesD_len]; done) | (simp [bytesD_len]; omega))
  refine fg [2, 3, 4, 5, 6, 7, 8, 9, 44] ?_
  refine AOps_seg 1 0x3000000003fc (mkS 118 [(2, .pt [.sl 3 [[str [97], i64 0, bo false]] (some t1), i64 3, .sl 2 [[i64 3, .sl 1 [[.sl 14 [[i64 5, i64 2, i64 0, bo true, bo false, i64 1, str [], i64 0, i64 0, bo false, i64 2, str [], i64 0, i64 0], [i64 7, i64 1, i64 0, bo true, bo false, i64 1, str [], i64 0, i64 0, bo false, i64 2, str [], i64 0, i64 0]] none]] none]] (some t4)]), (3, .sl 1 (v1.map eB) (some t5)), (4, bo v2), (5, .pt (Footer.enc v3)), (6, bo v4), (7, .sl 2 (v5.map Span.enc) (some t6)), (8, .sl 1 (v6.map eB) (some t7)), (9, bo v7), (44, .sl 1 [] (some t8)), (45, .sl 1 (v1.map eB) (some t5))]) none [2, 3, 4, 5, 6, 7, 8, 9, 10, 11] (by kernel_rfl) (by kernel_rfl) trivial ?_
  obtain ⟨hl1, h⟩ := is h
  refine AOps_appendU (bytes := 1) (es := []) (xs := v1.map eB) (tl := (some t5)) (([] : List UInt8)).length (tl_get rfl) rfl rfl rfl (by kernel_rfl) rfl (hh.tk 7 (by kernel_rfl)) (by simp only [List.length_map, List.length_cons, List.length_nil]) (.inl ⟨5, by kernel_rfl, rfl⟩) (by simp only [List.length_map, bytesD_len, List.length_cons, List.length_nil]; omega) (by simp only [List.length_map, bytesD_len, List.length_cons, List.length_nil]; omega) (fun S_ u_ => ?_)
  replace hh := hh.tkS' 7 (by kernel_rfl) u_ (n := (([] : List UInt8) ++ v1).length) (by first | rfl | (simp [bytesD_len]; done) | (simp [bytesD_len]; omega))
  refine fg [2, 3, 4, 5, 6, 7, 8, 9, 46] ?_
  refine tod 46 (.sl 1 ([] ++ (v1.map eB)) (some t8)) (.sl 1 ((([] : List UInt8) ++ v1).map eB) (some t8)) (by kernel_rfl) (by first | rw [List.map_append]; done | (simp only [List.map_append]; done) | (simp only [List.map_append]; rfl) | (rw [List.map_append]; rfl)) ?_
  refine AOps_litU (sz := 1) (es := [[u8 0]]) (tl_get rfl) rfl rfl rfl (by kernel_rfl) (by decide) (by kernel_rfl) (by decide) (by kernel_rfl) (by kernel_rfl) (by intro x hx; simp only [List.mem_cons, List.not_mem_nil, or_false] at hx; rcases hx with rfl <;> rfl) (fun S_ t9 hf_ u_ => ?_)
  replace hh := hh.tkN' hf_ u_ (n := (([0] : List UInt8)).length) (by first | rfl | (simp [bytesD_len]; done) | (simp [bytesD_len]; omega))
  refine fg [2, 3, 4, 5, 6, 7, 8, 9, 46, 47] ?_
  obtain ⟨hl2, h⟩ := is h
  refine AOps_appendU (bytes := 1) (es := (([] : List UInt8) ++ v1).map eB) (xs := [[u8 0]]) (tl := (some t9)) (([] : List UInt8) ++ v1).length (tl_get rfl) rfl rfl rfl (by kernel_rfl) rfl (hh.tk 7 (by kernel_rfl)) (by simp only [List.length_map, List.length_cons, List.length_nil]) (.inl ⟨5, by kernel_rfl, rfl⟩) (by simp only [List.length_map, bytesD_len, List.length_cons, List.length_nil]; omega) (by simp only [List.length_map, bytesD_len, List.length_cons, List.length_nil]; omega) (fun S_ u_ => ?_)
  replace hh := hh.tkS' 7 (by kernel_rfl) u_ (n := ((([] : List UInt8) ++ v1) ++ ([0] : List UInt8)).length) (by first | rfl | (simp [bytesD_len]; done) | (simp [bytesD_len]; omega))
  refine fg [2, 3, 4, 5, 6, 7, 8, 9, 48] ?_
  refine tod 48 (.sl 1 (((([] : List UInt8) ++ v1).map eB) ++ [[u8 0]]) (some t8)) (.sl 1 (((([] : List UInt8) ++ v1) ++ ([0] : List UInt8)).map eB) (some t8)) (by kernel_rfl) (by first | rw [List.map_append]; done | (simp only [List.map_append]; done) | (simp only [List.map_append]; rfl) | (rw [List.map_append]; rfl)) ?_
  obtain ⟨⟨v8, v9⟩, ht5, h⟩ := bs h
  simp only at h
  refine AOps_callR _ [.sl 1 (((([] : List UInt8) ++ v1) ++ ([0] : List UInt8)).map eB) none] (tl_get rfl) rfl rfl rfl rfl Try.func10 (by decide) rfl ((.cons (sl_le) (.nil))) (footer_Decode.ok _ ((([] : List UInt8) ++ v1) ++ ([0] : List UInt8)) _  _ _ ht5) ?_
  rintro _ S_ ⟨rfl, h2_⟩
  replace hh := hh.call0 h2_
  refine fg [2, 3, 4, 5, 6, 7, 8, 9, 49] ?_
  refine seg 3 [2, 3, 4, 5, 6, 7, 8, 9, 50, 51] [(50, .ag (Footer.enc v8)), (51, bo v9)] [9, 10, 11] (by kernel_rfl) (by kernel_rfl) ?_
  refine AOps_newvar (zs := [nilS, i64 0, nilS]) (ds := (Footer.enc v8)) (d := 10) (tl_get rfl) rfl rfl rfl (by kernel_rfl) (by kernel_rfl) (tl_get rfl) (fun _ => rfl) rfl rfl (fun _ => rfl) rfl (by kernel_rfl) (by kernel_rfl) ?_
  refine AOps_forget 0x80000000007fc (mkS 118 [(2, .pt [.sl 3 [[str [97], i64 0, bo false]] (some t1), i64 3, .sl 2 [[i64 3, .sl 1 [[.sl 14 [[i64 5, i64 2, i64 0, bo true, bo false, i64 1, str [], i64 0, i64 0, bo false, i64 2, str [], i64 0, i64 0], [i64 7, i64 1, i64 0, bo true, bo false, i64 1, str [], i64 0, i64 0, bo false, i64 2, str [], i64 0, i64 0]] none]] none]] (some t4)]), (3, .sl 1 (v1.map eB) (some t5)), (4, bo v2), (5, .pt (Footer.enc v3)), (6, bo v4), (7, .sl 2 (v5.map Span.enc) (some t6)), (8, .sl 1 (v6.map eB) (some t7)), (9, bo v7), (10, .pt (Footer.enc v8)), (51, bo v9)]) (by kernel_rfl) ?_
  refine seg 1 [2, 3, 4, 5, 6, 7, 8, 9, 11] [(11, bo v9)] [] (by kernel_rfl) (by kernel_rfl) ?_
  refine zn ?_
  refine AT_seq ?_
  refine zsr ?_
  refine seg 2 [2, 3, 4, 5, 6, 7, 8, 9, 11, 53] [(53, i64 ((v5.map Span.enc).length : Int))] [2, 3, 4, 5, 6, 7] (by kernel_rfl) (by kernel_rfl) ?_
  refine tod 53 (i64 ((v5.map Span.enc).length : Int)) (i64 (v5.length : Int)) (by kernel_rfl) (by rw [List.length_map]) ?_
  refine seg 2 [2, 3, 4, 5, 6, 7, 8, 9, 11, 55] [(55, bo ((v5.length : Int) != 2))] [4, 5, 6, 7] (by kernel_rfl) (by kernel_rfl) ?_
  refine cased 55 ((v5.length : Int) != 2) (by kernel_rfl) (fun hc3 => ?_) (fun hc3 => ?_)
  · rw [if_t hc3] at h
    refine seg 4 [2, 3, 4, 5, 6, 7, 8, 9, 11, 59] [(59, bo true)] [] (by kernel_rfl) (by kernel_rfl) ?_
    refine zn ?_
    refine AT_cond_t (by kernel_rfl) ?_
    refine zsr ?_
    refine seg 1 [0] [(0, bo false)] [] (by kernel_rfl) (by kernel_rfl) ?_
    refine zn ?_
    refine AT_ret ?_
    refine athen_r ?_
    have e_ := Option.some.inj h
    subst e_
    exact ⟨[bo false], _, S_, (.of (by kernel_rfl)), D.le.refl _, Store.le.refl _, rfl, (hh.sub [] (by decide) (by kernel_rfl))⟩
  rw [if_f hc3] at h
  refine seg 2 [2, 3, 4, 5, 6, 7, 8, 9, 11, 55, 57] [(57, i64 ((v1.map eB).length : Int))] [6, 7] (by kernel_rfl) (by kernel_rfl) ?_
  refine tod 57 (i64 ((v1.map eB).length : Int)) (i64 (v1.length : Int)) (by kernel_rfl) (by rw [List.length_map]) ?_
  refine seg 2 [2, 3, 4, 5, 6, 7, 8, 9, 11, 59] [(59, bo (decide ((v1.length : Int) < 9)))] [] (by kernel_rfl) (by kernel_rfl) ?_
  refine zn ?_
  refine AT_condS (decide ((v1.length : Int) < 9)) (by kernel_rfl) (fun hc4 => ?_) (fun hc4 => ?_)
  · rw [if_t hc4] at h
    refine zsr ?_
    refine seg 1 [0] [(0, bo false)] [] (by kernel_rfl) (by kernel_rfl) ?_
    refine zn ?_
    refine AT_ret ?_
    refine athen_r ?_
    have e_ := Option.some.inj h
    subst e_
    exact ⟨[bo false], _, S_, (.of (by kernel_rfl)), D.le.refl _, Store.le.refl _, rfl, (hh.sub [] (by decide) (by kernel_rfl))⟩
  rw [if_f hc4] at h
  refine zkn ?_
  refine zsr ?_
  refine seg 2 [2, 3, 5, 6, 7, 8, 9, 11, 61] [(61, bo v2)] [2, 3, 4, 5, 6, 7, 8, 9, 10, 11, 12, 13, 14, 15, 16, 17, 18, 19, 20, 21, 22, 23, 24, 25, 26, 27, 28, 29, 30, 31, 32, 33, 34, 35, 36, 37, 38, 39, 40, 41, 42, 43, 44, 45, 46, 47, 48, 49, 50, 51, 52, 53, 54, 55, 56, 57, 58] (by kernel_rfl) (by kernel_rfl) ?_
  refine casedR 61 v2 (by kernel_rfl) (fun hc5 => ?_) (fun hc5 => ?_)
  · rw [if_f hc5] at h
    refine seg 57 [0] [(0, bo false)] [] (by kernel_rfl) (by kernel_rfl) ?_
    refine zn ?_
    refine AT_ret ?_
    have e_ := Option.some.inj h
    subst e_
    exact ⟨[bo false], _, S_, (.of (by kernel_rfl)), D.le.refl _, Store.le.refl _, rfl, (hh.sub [] (by decide) (by kernel_rfl))⟩
  rw [if_t hc5] at h
  obtain ⟨hi5, h⟩ := is h
  refine segc 2 [2, 5, 6, 7, 8, 9, 11, 61, 63] [(63, .sl 1 ((v1.map eB).take (9 : Int).toNat) none)] (0 ≤ (9 : Int) ∧ (9 : Int) ≤ ((v1.map eB).length : Int)) [4, 5, 6, 7, 8, 9, 10, 11, 12, 13, 14, 15, 16, 17, 18, 19, 20, 21, 22, 23, 24, 25, 26, 27, 28, 29, 30, 31, 32, 33, 34, 35, 36, 37, 38, 39, 40, 41, 42, 43, 44, 45, 46, 47, 48, 49, 50, 51, 52, 53, 54, 55, 56, 57, 58] (by kernel_rfl) (by kernel_rfl) ((by rw [List.length_map]; exact hi5)) ?_
  refine tod 63 (.sl 1 ((v1.map eB).take (9 : Int).toNat) none) (.sl 1 ((v1.take (9 : Int).toNat).map eB) none) (by kernel_rfl) (by simp only [List.map_take, List.map_drop]) ?_
  refine AOps_str (v1.take (9 : Int).toNat) (tl_get rfl) rfl rfl rfl rfl (by kernel_rfl) rfl ?_
  refine fg [2, 5, 6, 7, 8, 9, 11, 61, 64] ?_
  refine AOps_seg 3 0x80000000000000be4 (mkS 118 [(2, .pt [.sl 3 [[str [97], i64 0, bo false]] (some t1), i64 3, .sl 2 [[i64 3, .sl 1 [[.sl 14 [[i64 5, i64 2, i64 0, bo true, bo false, i64 1, str [], i64 0, i64 0, bo false, i64 2, str [], i64 0, i64 0], [i64 7, i64 1, i64 0, bo true, bo false, i64 1, str [], i64 0, i64 0, bo false, i64 2, str [], i64 0, i64 0]] none]] none]] (some t4)]), (5, .pt (Footer.enc v3)), (6, bo v4), (7, .sl 2 (v5.map Span.enc) (some t6)), (8, .sl 1 (v6.map eB) (some t7)), (9, bo v7), (11, bo v9), (67, bo ((v1.take (9 : Int).toNat) == [1, 1, 97, 0, 0, 3, 1, 3, 2]))]) none [8, 9, 10, 11, 12, 13, 14, 15, 16, 17, 18, 19, 20, 21, 22, 23, 24, 25, 26, 27, 28, 29, 30, 31, 32, 33, 34, 35, 36, 37, 38, 39, 40, 41, 42, 43, 44, 45, 46, 47, 48, 49, 50, 51, 52, 53, 54, 55, 56, 57, 58] (by kernel_rfl) (by kernel_rfl) trivial ?_
  refine casedR 67 ((v1.take (9 : Int).toNat) == [1, 1, 97, 0, 0, 3, 1, 3, 2]) (by kernel_rfl) (fun hc6 => ?_) (fun hc6 => ?_)
  · rw [if_f hc6] at h
    refine seg 51 [0] [(0, bo false)] [] (by kernel_rfl) (by kernel_rfl) ?_
    refine zn ?_
    refine AT_ret ?_
    have e_ := Option.some.inj h
    subst e_
    exact ⟨[bo false], _, S_, (.of (by kernel_rfl)), D.le.refl _, Store.le.refl _, rfl, (hh.sub [] (by decide) (by kernel_rfl))⟩
  rw [if_t hc6] at h
  refine seg 3 [2, 5, 7, 8, 9, 11, 70] [(70, bo v4)] [11, 12, 13, 14, 15, 16, 17, 18, 19, 20, 21, 22, 23, 24, 25, 26, 27, 28, 29, 30, 31, 32, 33, 34, 35, 36, 37, 38, 39, 40, 41, 42, 43, 44, 45, 46, 47, 48, 49, 50, 51, 52, 53, 54, 55, 56, 57, 58] (by kernel_rfl) (by kernel_rfl) ?_
  refine casedR 70 v4 (by kernel_rfl) (fun hc7 => ?_) (fun hc7 => ?_)
  · rw [if_f hc7] at h
    refine seg 48 [0] [(0, bo false)] [] (by kernel_rfl) (by kernel_rfl) ?_
    refine zn ?_
    refine AT_ret ?_
    have e_ := Option.some.inj h
    subst e_
    exact ⟨[bo false], _, S_, (.of (by kernel_rfl)), D.le.refl _, Store.le.refl _, rfl, (hh.sub [] (by decide) (by kernel_rfl))⟩
  rw [if_t hc7] at h
  refine seg 2 [2, 7, 8, 9, 11, 70, 71, 72] [(71, .ag [.sl 3 [[str [97], i64 0, bo false]] (some t1), i64 3, .sl 2 [[i64 3, .sl 1 [[.sl 14 [[i64 5, i64 2, i64 0, bo true, bo false, i64 1, str [], i64 0, i64 0, bo false, i64 2, str [], i64 0, i64 0], [i64 7, i64 1, i64 0, bo true, bo false, i64 1, str [], i64 0, i64 0, bo false, i64 2, str [], i64 0, i64 0]] none]] none]] (some t4)]), (72, .ag (Footer.enc v3))] [13, 14, 15, 16, 17, 18, 19, 20, 21, 22, 23, 24, 25, 26, 27, 28, 29, 30, 31, 32, 33, 34, 35, 36, 37, 38, 39, 40, 41, 42, 43, 44, 45, 46, 47, 48, 49, 50, 51, 52, 53, 54, 55, 56, 57, 58] (by kernel_rfl) (by kernel_rfl) ?_
  obtain ⟨v10, ht6, h⟩ := bs h
  refine AOps_callR _ [.ag (Footer.enc (⟨([(⟨[97], 0, false⟩ : Col)] : List Col), 3, ([(⟨3, ([([(⟨5, 2, (⟨0, true, (⟨false, 1, [], (⟨0, 0⟩ : Point)⟩ : Cell), (⟨false, 2, [], (⟨0, 0⟩ : Point)⟩ : Cell)⟩ : Stat)⟩ : PageInfo), (⟨7, 1, (⟨0, true, (⟨false, 1, [], (⟨0, 0⟩ : Point)⟩ : Cell), (⟨false, 2, [], (⟨0, 0⟩ : Point)⟩ : Cell)⟩ : Stat)⟩ : PageInfo)] : List PageInfo)] : List (List PageInfo))⟩ : Group)] : List Group)⟩ : Footer)), .ag (Footer.enc v3)] (tl_get rfl) rfl rfl rfl rfl Try.func11 (by decide) rfl ((.cons ((ag_le (.cons (sl_le) (.cons (D.le.refl _) (.cons (sl_le) (.nil)))))) (.cons (D.le.refl _) (.nil)))) (ref19_Same.ok _ (⟨([(⟨[97], 0, false⟩ : Col)] : List Col), 3, ([(⟨3, ([([(⟨5, 2, (⟨0, true, (⟨false, 1, [], (⟨0, 0⟩ : Point)⟩ : Cell), (⟨false, 2, [], (⟨0, 0⟩ : Point)⟩ : Cell)⟩ : Stat)⟩ : PageInfo), (⟨7, 1, (⟨0, true, (⟨false, 1, [], (⟨0, 0⟩ : Point)⟩ : Cell), (⟨false, 2, [], (⟨0, 0⟩ : Point)⟩ : Cell)⟩ : Stat)⟩ : PageInfo)] : List PageInfo)] : List (List PageInfo))⟩ : Group)] : List Group)⟩ : Footer) v3 _  _ ht6) ?_
  rintro _ S_ ⟨rfl, h2_⟩
  replace hh := hh.call0 h2_
  refine fg [2, 7, 8, 9, 11, 70, 73] ?_
  refine seg 2 [2, 7, 8, 9, 11, 75] [(75, bo v10)] [16, 17, 18, 19, 20, 21, 22, 23, 24, 25, 26, 27, 28, 29, 30, 31, 32, 33, 34, 35, 36, 37, 38, 39, 40, 41, 42, 43, 44, 45, 46, 47, 48, 49, 50, 51, 52, 53, 54, 55, 56, 57, 58] (by kernel_rfl) (by kernel_rfl) ?_
  refine casedR 75 v10 (by kernel_rfl) (fun hc8 => ?_) (fun hc8 => ?_)
  · rw [if_f hc8] at h
    refine seg 43 [0] [(0, bo false)] [] (by kernel_rfl) (by kernel_rfl) ?_
    refine zn ?_
    refine AT_ret ?_
    have e_ := Option.some.inj h
    subst e_
    exact ⟨[bo false], _, S_, (.of (by kernel_rfl)), D.le.refl _, Store.le.refl _, rfl, (hh.sub [] (by decide) (by kernel_rfl))⟩
  rw [if_t hc8] at h
  obtain ⟨hi6, h⟩ := is h
  refine segc 2 [2, 8, 9, 11, 75, 77] [(77, .pt ((v5.map Span.enc).getD (1 : Int).toNat []))] (0 ≤ (1 : Int) ∧ (1 : Int) < ((v5.map Span.enc).length : Int)) [18, 19, 20, 21, 22, 23, 24, 25, 26, 27, 28, 29, 30, 31, 32, 33, 34, 35, 36, 37, 38, 39, 40, 41, 42, 43, 44, 45, 46, 47, 48, 49, 50, 51, 52, 53, 54, 55, 56, 57, 58] (by kernel_rfl) (by kernel_rfl) (idx_ok hi6) ?_
  refine tod 77 (.pt ((v5.map Span.enc).getD (1 : Int).toNat [])) (.pt (Span.enc (rd v5 1 Span.zero))) (by kernel_rfl) (by rw [pt_rd Span.enc v5 1 Span.zero hi6.1 hi6.2]) ?_
  refine seg 5 [2, 8, 9, 11, 82] [(82, bo ((((rd v5 1 Span.zero).From) == 2) && ((((rd v5 1 Span.zero).To) == 3) && true)))] [23, 24, 25, 26, 27, 28, 29, 30, 31, 32, 33, 34, 35, 36, 37, 38, 39, 40, 41, 42, 43, 44, 45, 46, 47, 48, 49, 50, 51, 52, 53, 54, 55, 56, 57, 58] (by kernel_rfl) (by kernel_rfl) ?_
  refine casedR 82 ((((rd v5 1 Span.zero).From) == 2) && ((((rd v5 1 Span.zero).To) == 3) && true)) (by kernel_rfl) (fun hc9 => ?_) (fun hc9 => ?_)
  · rw [if_f hc9] at h
    refine seg 36 [0] [(0, bo false)] [] (by kernel_rfl) (by kernel_rfl) ?_
    refine zn ?_
    refine AT_ret ?_
    have e_ := Option.some.inj h
    subst e_
    exact ⟨[bo false], _, S_, (.of (by kernel_rfl)), D.le.refl _, Store.le.refl _, rfl, (hh.sub [] (by decide) (by kernel_rfl))⟩
  rw [if_t hc9] at h
  refine seg 1 [2, 9, 11, 82, 83] [(83, .sl 1 (v6.map eB) (some t7))] [24, 25, 26, 27, 28, 29, 30, 31, 32, 33, 34, 35, 36, 37, 38, 39, 40, 41, 42, 43, 44, 45, 46, 47, 48, 49, 50, 51, 52, 53, 54, 55, 56, 57, 58] (by kernel_rfl) (by kernel_rfl) ?_
  refine AOps_str v6 (tl_get rfl) rfl rfl rfl rfl (by kernel_rfl) rfl ?_
  refine fg [2, 9, 11, 82, 84] ?_
  refine AOps_seg 3 0x8000000000000000000a04 (mkS 118 [(2, .pt [.sl 3 [[str [97], i64 0, bo false]] (some t1), i64 3, .sl 2 [[i64 3, .sl 1 [[.sl 14 [[i64 5, i64 2, i64 0, bo true, bo false, i64 1, str [], i64 0, i64 0, bo false, i64 2, str [], i64 0, i64 0], [i64 7, i64 1, i64 0, bo true, bo false, i64 1, str [], i64 0, i64 0, bo false, i64 2, str [], i64 0, i64 0]] none]] none]] (some t4)]), (9, bo v7), (11, bo v9), (87, bo (v6 == [0, 0, 0]))]) none [28, 29, 30, 31, 32, 33, 34, 35, 36, 37, 38, 39, 40, 41, 42, 43, 44, 45, 46, 47, 48, 49, 50, 51, 52, 53, 54, 55, 56, 57, 58] (by kernel_rfl) (by kernel_rfl) trivial ?_
  refine casedR 87 (v6 == [0, 0, 0]) (by kernel_rfl) (fun hc10 => ?_) (fun hc10 => ?_)
  · rw [if_f hc10] at h
    refine seg 31 [0] [(0, bo false)] [] (by kernel_rfl) (by kernel_rfl) ?_
    refine zn ?_
    refine AT_ret ?_
    have e_ := Option.some.inj h
    subst e_
    exact ⟨[bo false], _, S_, (.of (by kernel_rfl)), D.le.refl _, Store.le.refl _, rfl, (hh.sub [] (by decide) (by kernel_rfl))⟩
  rw [if_t hc10] at h
  refine seg 3 [2, 11, 90] [(90, bo v7)] [31, 32, 33, 34, 35, 36, 37, 38, 39, 40, 41, 42, 43, 44, 45, 46, 47, 48, 49, 50, 51, 52, 53, 54, 55, 56, 57, 58] (by kernel_rfl) (by kernel_rfl) ?_
  refine casedR 90 v7 (by kernel_rfl) (fun hc11 => ?_) (fun hc11 => ?_)
  · rw [if_f hc11] at h
    refine seg 28 [0] [(0, bo false)] [] (by kernel_rfl) (by kernel_rfl) ?_
    refine zn ?_
    refine AT_ret ?_
    have e_ := Option.some.inj h
    subst e_
    exact ⟨[bo false], _, S_, (.of (by kernel_rfl)), D.le.refl _, Store.le.refl _, rfl, (hh.sub [] (by decide) (by kernel_rfl))⟩
  rw [if_t hc11] at h
  refine seg 4 [2, 94] [(94, bo (!v9))] [35, 36, 37, 38, 39, 40, 41, 42, 43, 44, 45, 46, 47, 48, 49, 50, 51, 52, 53, 54, 55, 56, 57, 58] (by kernel_rfl) (by kernel_rfl) ?_
  refine casedR 94 (!v9) (by kernel_rfl) (fun hc12 => ?_) (fun hc12 => ?_)
  · rw [if_f hc12] at h
    refine seg 24 [0] [(0, bo false)] [] (by kernel_rfl) (by kernel_rfl) ?_
    refine zn ?_
    refine AT_ret ?_
    have e_ := Option.some.inj h
    subst e_
    exact ⟨[bo false], _, S_, (.of (by kernel_rfl)), D.le.refl _, Store.le.refl _, rfl, (hh.sub [] (by decide) (by kernel_rfl))⟩
  rw [if_t hc12] at h
  refine seg 1 [2, 94, 95] [(95, .ag [.sl 3 [[str [97], i64 0, bo false]] (some t1), i64 3, .sl 2 [[i64 3, .sl 1 [[.sl 14 [[i64 5, i64 2, i64 0, bo true, bo false, i64 1, str [], i64 0, i64 0, bo false, i64 2, str [], i64 0, i64 0], [i64 7, i64 1, i64 0, bo true, bo false, i64 1, str [], i64 0, i64 0, bo false, i64 2, str [], i64 0, i64 0]] none]] none]] (some t4)])] [36, 37, 38, 39, 40, 41, 42, 43, 44, 45, 46, 47, 48, 49, 50, 51, 52, 53, 54, 55, 56, 57, 58] (by kernel_rfl) (by kernel_rfl) ?_
  obtain ⟨v11, ht7, h⟩ := bs h
  refine AOps_callR _ [.ag (Footer.enc (⟨([(⟨[97], 0, false⟩ : Col)] : List Col), 3, ([(⟨3, ([([(⟨5, 2, (⟨0, true, (⟨false, 1, [], (⟨0, 0⟩ : Point)⟩ : Cell), (⟨false, 2, [], (⟨0, 0⟩ : Point)⟩ : Cell)⟩ : Stat)⟩ : PageInfo), (⟨7, 1, (⟨0, true, (⟨false, 1, [], (⟨0, 0⟩ : Point)⟩ : Cell), (⟨false, 2, [], (⟨0, 0⟩ : Point)⟩ : Cell)⟩ : Stat)⟩ : PageInfo)] : List PageInfo)] : List (List PageInfo))⟩ : Group)] : List Group)⟩ : Footer)), i64 0, i64 0, i64 1] (tl_get rfl) rfl rfl rfl rfl Try.func8 (by decide) rfl ((.cons ((ag_le (.cons (sl_le) (.cons (D.le.refl _) (.cons (sl_le) (.nil)))))) (.cons (D.le.refl _) (.cons (D.le.refl _) (.cons (D.le.refl _) (.nil)))))) (footer_Place.ok _ (⟨([(⟨[97], 0, false⟩ : Col)] : List Col), 3, ([(⟨3, ([([(⟨5, 2, (⟨0, true, (⟨false, 1, [], (⟨0, 0⟩ : Point)⟩ : Cell), (⟨false, 2, [], (⟨0, 0⟩ : Point)⟩ : Cell)⟩ : Stat)⟩ : PageInfo), (⟨7, 1, (⟨0, true, (⟨false, 1, [], (⟨0, 0⟩ : Point)⟩ : Cell), (⟨false, 2, [], (⟨0, 0⟩ : Point)⟩ : Cell)⟩ : Stat)⟩ : PageInfo)] : List PageInfo)] : List (List PageInfo))⟩ : Group)] : List Group)⟩ : Footer) 0 0 1 _  _ ht7) ?_
  rintro _ S_ ⟨rfl, h2_⟩
  replace hh := hh.call0 h2_
  refine fg [2, 94, 96] ?_
  refine seg 3 [2, 99] [(99, bo (v11 == 5))] [40, 41, 42, 43, 44, 45, 46, 47, 48, 49, 50, 51, 52, 53, 54, 55, 56, 57, 58] (by kernel_rfl) (by kernel_rfl) ?_
  refine casedR 99 (v11 == 5) (by kernel_rfl) (fun hc13 => ?_) (fun hc13 => ?_)
  · rw [if_f hc13] at h
    refine seg 19 [0] [(0, bo false)] [] (by kernel_rfl) (by kernel_rfl) ?_
    refine zn ?_
    refine AT_ret ?_
    have e_ := Option.some.inj h
    subst e_
    exact ⟨[bo false], _, S_, (.of (by kernel_rfl)), D.le.refl _, Store.le.refl _, rfl, (hh.sub [] (by decide) (by kernel_rfl))⟩
  rw [if_t hc13] at h
  refine seg 1 [2, 99, 100] [(100, .ag [.sl 3 [[str [97], i64 0, bo false]] (some t1), i64 3, .sl 2 [[i64 3, .sl 1 [[.sl 14 [[i64 5, i64 2, i64 0, bo true, bo false, i64 1, str [], i64 0, i64 0, bo false, i64 2, str [], i64 0, i64 0], [i64 7, i64 1, i64 0, bo true, bo false, i64 1, str [], i64 0, i64 0, bo false, i64 2, str [], i64 0, i64 0]] none]] none]] (some t4)])] [41, 42, 43, 44, 45, 46, 47, 48, 49, 50, 51, 52, 53, 54, 55, 56, 57, 58] (by kernel_rfl) (by kernel_rfl) ?_
  obtain ⟨v12, ht8, h⟩ := bs h
  refine AOps_callR _ [.ag (Footer.enc (⟨([(⟨[97], 0, false⟩ : Col)] : List Col), 3, ([(⟨3, ([([(⟨5, 2, (⟨0, true, (⟨false, 1, [], (⟨0, 0⟩ : Point)⟩ : Cell), (⟨false, 2, [], (⟨0, 0⟩ : Point)⟩ : Cell)⟩ : Stat)⟩ : PageInfo), (⟨7, 1, (⟨0, true, (⟨false, 1, [], (⟨0, 0⟩ : Point)⟩ : Cell), (⟨false, 2, [], (⟨0, 0⟩ : Point)⟩ : Cell)⟩ : Stat)⟩ : PageInfo)] : List PageInfo)] : List (List PageInfo))⟩ : Group)] : List Group)⟩ : Footer)), i64 1, i64 0, i64 0] (tl_get rfl) rfl rfl rfl rfl Try.func8 (by decide) rfl ((.cons ((ag_le (.cons (sl_le) (.cons (D.le.refl _) (.cons (sl_le) (.nil)))))) (.cons (D.le.refl _) (.cons (D.le.refl _) (.cons (D.le.refl _) (.nil)))))) (footer_Place.ok _ (⟨([(⟨[97], 0, false⟩ : Col)] : List Col), 3, ([(⟨3, ([([(⟨5, 2, (⟨0, true, (⟨false, 1, [], (⟨0, 0⟩ : Point)⟩ : Cell), (⟨false, 2, [], (⟨0, 0⟩ : Point)⟩ : Cell)⟩ : Stat)⟩ : PageInfo), (⟨7, 1, (⟨0, true, (⟨false, 1, [], (⟨0, 0⟩ : Point)⟩ : Cell), (⟨false, 2, [], (⟨0, 0⟩ : Point)⟩ : Cell)⟩ : Stat)⟩ : PageInfo)] : List PageInfo)] : List (List PageInfo))⟩ : Group)] : List Group)⟩ : Footer) 1 0 0 _  _ ht8) ?_
  rintro _ S_ ⟨rfl, h2_⟩
  replace hh := hh.call0 h2_
  refine fg [2, 99, 101] ?_
  refine seg 3 [2, 104] [(104, bo (v12 == 12))] [45, 46, 47, 48, 49, 50, 51, 52, 53, 54, 55, 56, 57, 58] (by kernel_rfl) (by kernel_rfl) ?_
  refine casedR 104 (v12 == 12) (by kernel_rfl) (fun hc14 => ?_) (fun hc14 => ?_)
  · rw [if_f hc14] at h
    refine AOps_seg 14 0x1 (mkS 118 [(0, bo false)]) none [] (by kernel_rfl) (by kernel_rfl) trivial ?_
    refine zn ?_
    refine AT_ret ?_
    have e_ := Option.some.inj h
    subst e_
    exact ⟨[bo false], _, S_, (.of (by kernel_rfl)), D.le.refl _, Store.le.refl _, rfl, (hh.sub [] (by decide) (by kernel_rfl))⟩
  rw [if_t hc14] at h
  refine AOps_seg 1 0x300000000000000000000000004 (mkS 118 [(2, .pt [.sl 3 [[str [97], i64 0, bo false]] (some t1), i64 3, .sl 2 [[i64 3, .sl 1 [[.sl 14 [[i64 5, i64 2, i64 0, bo true, bo false, i64 1, str [], i64 0, i64 0, bo false, i64 2, str [], i64 0, i64 0], [i64 7, i64 1, i64 0, bo true, bo false, i64 1, str [], i64 0, i64 0, bo false, i64 2, str [], i64 0, i64 0]] none]] none]] (some t4)]), (104, bo true), (105, .ag [.sl 3 [[str [97], i64 0, bo false]] (some t1), i64 3, .sl 2 [[i64 3, .sl 1 [[.sl 14 [[i64 5, i64 2, i64 0, bo true, bo false, i64 1, str [], i64 0, i64 0, bo false, i64 2, str [], i64 0, i64 0], [i64 7, i64 1, i64 0, bo true, bo false, i64 1, str [], i64 0, i64 0, bo false, i64 2, str [], i64 0, i64 0]] none]] none]] (some t4)])]) none [46, 47, 48, 49, 50, 51, 52, 53, 54, 55, 56, 57, 58] (by kernel_rfl) (by kernel_rfl) trivial ?_
  obtain ⟨v13, ht9, h⟩ := bs h
  refine AOps_callR _ [.ag (Footer.enc (⟨([(⟨[97], 0, false⟩ : Col)] : List Col), 3, ([(⟨3, ([([(⟨5, 2, (⟨0, true, (⟨false, 1, [], (⟨0, 0⟩ : Point)⟩ : Cell), (⟨false, 2, [], (⟨0, 0⟩ : Point)⟩ : Cell)⟩ : Stat)⟩ : PageInfo), (⟨7, 1, (⟨0, true, (⟨false, 1, [], (⟨0, 0⟩ : Point)⟩ : Cell), (⟨false, 2, [], (⟨0, 0⟩ : Point)⟩ : Cell)⟩ : Stat)⟩ : PageInfo)] : List PageInfo)] : List (List PageInfo))⟩ : Group)] : List Group)⟩ : Footer)), i64 0, i64 0, i64 2] (tl_get rfl) rfl rfl rfl rfl Try.func8 (by decide) rfl ((.cons ((ag_le (.cons (sl_le) (.cons (D.le.refl _) (.cons (sl_le) (.nil)))))) (.cons (D.le.refl _) (.cons (D.le.refl _) (.cons (D.le.refl _) (.nil)))))) (footer_Place.ok _ (⟨([(⟨[97], 0, false⟩ : Col)] : List Col), 3, ([(⟨3, ([([(⟨5, 2, (⟨0, true, (⟨false, 1, [], (⟨0, 0⟩ : Point)⟩ : Cell), (⟨false, 2, [], (⟨0, 0⟩ : Point)⟩ : Cell)⟩ : Stat)⟩ : PageInfo), (⟨7, 1, (⟨0, true, (⟨false, 1, [], (⟨0, 0⟩ : Point)⟩ : Cell), (⟨false, 2, [], (⟨0, 0⟩ : Point)⟩ : Cell)⟩ : Stat)⟩ : PageInfo)] : List PageInfo)] : List (List PageInfo))⟩ : Group)] : List Group)⟩ : Footer) 0 0 2 _  _ ht9) ?_
  rintro _ S_ ⟨rfl, h2_⟩
  replace hh := hh.call0 h2_
  refine fg [2, 104, 106] ?_
  refine seg 3 [2, 109] [(109, bo (v13 == (-1)))] [50, 51, 52, 53, 54, 55, 56, 57, 58] (by kernel_rfl) (by kernel_rfl) ?_
  refine casedR 109 (v13 == (-1)) (by kernel_rfl) (fun hc15 => ?_) (fun hc15 => ?_)
  · rw [if_f hc15] at h
    refine seg 9 [0] [(0, bo false)] [] (by kernel_rfl) (by kernel_rfl) ?_
    refine zn ?_
    refine AT_ret ?_
    have e_ := Option.some.inj h
    subst e_
    exact ⟨[bo false], _, S_, (.of (by kernel_rfl)), D.le.refl _, Store.le.refl _, rfl, (hh.sub [] (by decide) (by kernel_rfl))⟩
  rw [if_t hc15] at h
  refine seg 1 [109, 110] [(110, .ag [.sl 3 [[str [97], i64 0, bo false]] (some t1), i64 3, .sl 2 [[i64 3, .sl 1 [[.sl 14 [[i64 5, i64 2, i64 0, bo true, bo false, i64 1, str [], i64 0, i64 0, bo false, i64 2, str [], i64 0, i64 0], [i64 7, i64 1, i64 0, bo true, bo false, i64 1, str [], i64 0, i64 0, bo false, i64 2, str [], i64 0, i64 0]] none]] none]] (some t4)])] [51, 52, 53, 54, 55, 56, 57, 58] (by kernel_rfl) (by kernel_rfl) ?_
  obtain ⟨v14, ht10, h⟩ := bs h
  refine AOps_callR _ [.ag (Footer.enc (⟨([(⟨[97], 0, false⟩ : Col)] : List Col), 3, ([(⟨3, ([([(⟨5, 2, (⟨0, true, (⟨false, 1, [], (⟨0, 0⟩ : Point)⟩ : Cell), (⟨false, 2, [], (⟨0, 0⟩ : Point)⟩ : Cell)⟩ : Stat)⟩ : PageInfo), (⟨7, 1, (⟨0, true, (⟨false, 1, [], (⟨0, 0⟩ : Point)⟩ : Cell), (⟨false, 2, [], (⟨0, 0⟩ : Point)⟩ : Cell)⟩ : Stat)⟩ : PageInfo)] : List PageInfo)] : List (List PageInfo))⟩ : Group)] : List Group)⟩ : Footer))] (tl_get rfl) rfl rfl rfl rfl Try.func12 (by decide) rfl ((.cons ((ag_le (.cons (sl_le) (.cons (D.le.refl _) (.cons (sl_le) (.nil)))))) (.nil))) (footer_Right.ok _ (⟨([(⟨[97], 0, false⟩ : Col)] : List Col), 3, ([(⟨3, ([([(⟨5, 2, (⟨0, true, (⟨false, 1, [], (⟨0, 0⟩ : Point)⟩ : Cell), (⟨false, 2, [], (⟨0, 0⟩ : Point)⟩ : Cell)⟩ : Stat)⟩ : PageInfo), (⟨7, 1, (⟨0, true, (⟨false, 1, [], (⟨0, 0⟩ : Point)⟩ : Cell), (⟨false, 2, [], (⟨0, 0⟩ : Point)⟩ : Cell)⟩ : Stat)⟩ : PageInfo)] : List PageInfo)] : List (List PageInfo))⟩ : Group)] : List Group)⟩ : Footer) _  _ ht10) ?_
  rintro _ S_ ⟨rfl, h2_⟩
  replace hh := hh.call0 h2_
  refine fg [109, 111] ?_
  refine seg 2 [113] [(113, bo v14)] [54, 55, 56, 57, 58] (by kernel_rfl) (by kernel_rfl) ?_
  refine casedR 113 v14 (by kernel_rfl) (fun hc16 => ?_) (fun hc16 => ?_)
  · rw [if_f hc16] at h
    refine seg 5 [0] [(0, bo false)] [] (by kernel_rfl) (by kernel_rfl) ?_
    refine zn ?_
    refine AT_ret ?_
    have e_ := Option.some.inj h
    subst e_
    exact ⟨[bo false], _, S_, (.of (by kernel_rfl)), D.le.refl _, Store.le.refl _, rfl, (hh.sub [] (by decide) (by kernel_rfl))⟩
  rw [if_t hc16] at h
  refine seg 1 [113, 114] [(114, .ag [nilS, i64 1, nilS])] [55, 56, 57, 58] (by kernel_rfl) (by kernel_rfl) ?_
  obtain ⟨v15, ht11, h⟩ := bs h
  refine AOps_callR _ [.ag (Footer.enc (⟨[], 1, []⟩ : Footer))] (tl_get rfl) rfl rfl rfl rfl Try.func12 (by decide) rfl ((.cons ((ag_le (.cons (nil_le) (.cons (D.le.refl _) (.cons (nil_le) (.nil)))))) (.nil))) (footer_Right.ok _ (⟨[], 1, []⟩ : Footer) _  _ ht11) ?_
  rintro _ S_ ⟨rfl, h2_⟩
  replace hh := hh.call0 h2_
  refine fg [113, 115] ?_
  refine seg 3 [0] [(0, bo (!v15))] [] (by kernel_rfl) (by kernel_rfl) ?_
  refine zn ?_
  refine AT_ret ?_
  have e_ := Option.some.inj h
  subst e_
  exact ⟨[bo (!v15)], _, S_, (.of (by kernel_rfl)), D.le.refl _, Store.le.refl _, rfl, (hh.sub [] (by decide) (by kernel_rfl))⟩
end Go.Proofs.Ytfaojkajlpojlaa.Abs
