/- What functions of the program compute, each with the proof that it does (printed by wip/gen/all2.py). -/
import Derived.Test.YtfaojkajlpojlaaV6
import Derived.KernelRfl
namespace Go.Proofs.Ytfaojkajlpojlaa.Abs
open Go
set_option maxRecDepth 100000
def plain_bools.l0 : Nat → (List Int) → Bool → (List Cell) → Int → Option ((List Cell) × Bool)
  | 0, _, _, _, _ => none
  | k + 1, v1, v2, x1, x2 => if (decide (x2 < (v1.length : Int))) = true then (if 0 ≤ x2 ∧ x2 < (v1.length : Int) then (if (x1.length + 1) * 48 ≤ 140737488355328 then (plain_bools.l0 k v1 v2 (x1 ++ ([(⟨false, IntKind.wrap .i64 (rd v1 x2 0), [], (⟨0, 0⟩ : Point)⟩ : Cell)] : List Cell)) (IntKind.wrap .i64 (x2 + 1))) else none) else none) else (some (x1, v2))
def plain_bools.f (k : Nat) (a0 : (List UInt8)) (a1 : Int) : Option ((List Cell) × Bool) := (bitpack_Unpack.f k a0 1 a1).bind fun q_v1 => (plain_bools.l0 k q_v1.1 q_v1.2 ([] : List Cell) 0)
theorem plain_bools.mono_l : ∀ k, (∀ y0 y1 y2 y3, LeO (plain_bools.l0 k y0 y1 y2 y3) (plain_bools.l0 (k + 1) y0 y1 y2 y3))
  | 0 => fun _ _ _ _ r h => (by simp only [plain_bools.l0] at h; cases h)
  | k + 1 => by
    have ih := plain_bools.mono_l k
    · intro y0 y1 y2 y3
      rw [plain_bools.l0, plain_bools.l0]
      repeat' first
        | exact LeO.refl _
        | exact LeO.none _
        | exact ih _ _ _ _
        | exact bitpack_Unpack.mono _ _ _ _
        | refine LeO.ite ?_ ?_
        | refine LeO.bind ?_ (fun _ => ?_)
theorem plain_bools.mono (k : Nat) (a0 : (List UInt8)) (a1 : Int) : LeO (plain_bools.f k a0 a1) (plain_bools.f (k + 1) a0 a1) := by
  unfold plain_bools.f
  repeat' first
    | exact LeO.refl _
    | exact LeO.none _
    | exact (plain_bools.mono_l k) _ _ _ _
    | exact bitpack_Unpack.mono _ _ _ _
    | refine LeO.ite ?_ ?_
    | refine LeO.bind ?_ (fun _ => ?_)
theorem plain_bools.ok (k : Nat) (a0 : (List UInt8)) (a1 : Int) (S : Store) (r0 : (List Cell)) (r1 : Bool) (h : plain_bools.f k a0 a1 = some (r0, r1)) : ACalls Try.prog 48 [.sl 1 (a0.map eB) none, i64 a1] S (fun r_ S_ => ∃ (u0 : Nat), r_ = .tup [.sl 5 (r0.map Cell.enc) (some u0), bo r1] ∧ Own S [] S_ [.t u0 (r0).length 5]) := by
  unfold plain_bools.f at h
  refine acalls_of Try.func48 rfl ?_
  have hh := Own.nil (S := S)
  refine AT_forget 0x3 (mkS 32 [(0, .sl 1 (a0.map eB) none), (1, i64 a1)]) (by kernel_rfl) ?_
  refine zsr ?_
  refine seg 2 [0, 1] [] [] (by kernel_rfl) (by kernel_rfl) ?_
  refine znsr ?_
  refine seg 2 [12, 13] [(12, .sl 1 (a0.map eB) none), (13, i64 a1)] [2, 3, 4, 5, 6, 7] (by kernel_rfl) (by kernel_rfl) ?_
  obtain ⟨⟨v1, v2⟩, ht1, h⟩ := bs h
  simp only at h
  refine AOps_callR _ [.sl 1 (a0.map eB) none, i64 1, i64 a1] (tl_get rfl) rfl rfl rfl rfl Try.func63 (by decide) rfl ((.cons (D.le.refl _) (.cons (D.le.refl _) (.cons (D.le.refl _) (.nil))))) (bitpack_Unpack.ok _ a0 1 a1 _  _ _ ht1) ?_
  rintro _ S_ ⟨rfl, h2_⟩
  replace hh := hh.call0 h2_
  refine fg [14] ?_
  refine seg 5 [6, 7] [(6, .sl 1 (v1.map eU) none), (7, bo v2)] [] (by kernel_rfl) (by kernel_rfl) ?_
  refine znsr ?_
  refine seg 1 [6, 7, 8] [(8, nilS)] [] (by kernel_rfl) (by kernel_rfl) ?_
  refine zn ?_
  refine AT_seq ?_
  refine zsr ?_
  refine seg 2 [7, 8, 17, 18] [(17, .sl 1 (v1.map eU) none), (18, i64 ((v1.map eU).length : Int))] [2] (by kernel_rfl) (by kernel_rfl) ?_
  refine tod 18 (i64 ((v1.map eU).length : Int)) (i64 (v1.length : Int)) (by kernel_rfl) (by rw [List.length_map]) ?_
  refine seg 1 [7, 8, 17, 18, 19] [(19, i64 0)] [] (by kernel_rfl) (by kernel_rfl) ?_
  refine zn ?_
  refine AT_block ?_
  refine AT_nilU 8 5 (fun tk_ => mkS 32 [(7, bo v2), (8, .sl 5 [] (some tk_)), (17, .sl 1 (v1.map eU) none), (18, i64 (v1.length : Int)), (19, i64 0)]) (by kernel_rfl) (fun tk_ => by kernel_rfl) (fun S_ t1 hf_ u_ => ?_)
  replace hh := hh.tkN' hf_ u_ (n := (([] : List Cell)).length) (by first | rfl | (simp [bytesD_len]; done) | (simp [bytesD_len]; omega))
  refine AT_loopM 0xe0180 (fun k_ sl_ S_ => k_ ≤ k ∧ ∃ (x1 : (List Cell)), ∃ (x2 : Int), ∃ (tk1 : Nat), LeL sl_ (mkS 32 [(7, bo v2), (8, .sl 5 (x1.map Cell.enc) (some tk1)), (17, .sl 1 (v1.map eU) none), (18, i64 (v1.length : Int)), (19, i64 x2)]) ∧ plain_bools.l0 k_ v1 v2 x1 x2 = some (r0, r1) ∧ Own S [] S_ [.t tk1 (x1).length 5]) k ⟨Nat.le_refl _, ([] : List Cell), 0, t1, (le_rf (by kernel_rfl)), h, hh⟩ ?_
  clear hh h
  rintro k' sl_ S_ ⟨hk_, x1, x2, tk1, hl_, h, hh⟩
  refine AT_weaken hl_ ?_
  obtain _ | k1 := k'
  · cases h
  rw [plain_bools.l0] at h
  refine zsr ?_
  refine seg 1 [7, 8, 17, 18, 19, 20] [(20, bo (decide (x2 < (v1.length : Int))))] [] (by kernel_rfl) (by kernel_rfl) ?_
  refine zn ?_
  refine AT_seq ?_
  refine AT_condR (decide (x2 < (v1.length : Int))) (by kernel_rfl) (fun hc1 => ?_) (fun hc1 => ?_)
  · rw [if_f hc1] at h
    refine AT_exit ?_
    refine athen_e ?_
    refine athen_e ?_
    refine ablock_h ?_
    refine athen_n ?_
    refine zsr ?_
    refine seg 4 [4, 5] [(4, .sl 5 (x1.map Cell.enc) (some tk1)), (5, bo v2)] [] (by kernel_rfl) (by kernel_rfl) ?_
    refine zn ?_
    refine AT_ret ?_
    have e0_ : x1 = r0 := congrArg (fun p_ => p_.1) (Option.some.inj h)
    have e1_ : v2 = r1 := congrArg (fun p_ => p_.2) (Option.some.inj h)
    subst e0_
    subst e1_
    exact ⟨[.sl 5 (x1.map Cell.enc) (some tk1), bo v2], _, S_, (.of (by kernel_rfl)), D.le.refl _, Store.le.refl _, tk1, rfl, hh⟩
  rw [if_t hc1] at h
  refine zkn ?_
  refine AT_seq ?_
  refine AT_block ?_
  refine zsr ?_
  obtain ⟨hi2, h⟩ := is h
  refine segc 1 [7, 8, 17, 18, 19, 21] [(21, .pt ((v1.map eU).getD (x2 : Int).toNat []))] (0 ≤ x2 ∧ x2 < ((v1.map eU).length : Int)) [1, 2] (by kernel_rfl) (by kernel_rfl) (idx_ok hi2) ?_
  refine tod 21 (.pt ((v1.map eU).getD (x2 : Int).toNat [])) (.pt [u64 (rd v1 x2 0)]) (by kernel_rfl) (by rw [pt_rd eU v1 x2 0 hi2.1 hi2.2]) ?_
  refine seg 2 [7, 8, 10, 17, 18, 19] [(10, u64 (rd v1 x2 0))] [] (by kernel_rfl) (by kernel_rfl) ?_
  refine znr ?_
  refine seg 4 [7, 17, 18, 19, 23, 26] [(23, .sl 5 (x1.map Cell.enc) (some tk1)), (26, .ag [bo false, i64 (IntKind.wrap .i64 (rd v1 x2 0)), str [], i64 0, i64 0])] [4, 5, 6] (by kernel_rfl) (by kernel_rfl) ?_
  refine AOps_litU (sz := 5) (es := [[bo false, i64 (IntKind.wrap .i64 (rd v1 x2 0)), str [], i64 0, i64 0]]) (tl_get rfl) rfl rfl rfl (by kernel_rfl) (by decide) (by kernel_rfl) (by decide) (by kernel_rfl) (by kernel_rfl) (by intro x hx; simp only [List.mem_cons, List.not_mem_nil, or_false] at hx; rcases hx with rfl <;> rfl) (fun S_ t2 hf_ u_ => ?_)
  replace hh := hh.tkN' hf_ u_ (n := (([(⟨false, IntKind.wrap .i64 (rd v1 x2 0), [], (⟨0, 0⟩ : Point)⟩ : Cell)] : List Cell)).length) (by first | rfl | (simp [bytesD_len]; done) | (simp [bytesD_len]; omega))
  refine fg [7, 17, 18, 19, 23, 27] ?_
  obtain ⟨hl1, h⟩ := is h
  refine AOps_appendU (bytes := 48) (es := x1.map Cell.enc) (xs := [[bo false, i64 (IntKind.wrap .i64 (rd v1 x2 0)), str [], i64 0, i64 0]]) (tl := (some t2)) (x1).length (tl_get rfl) rfl rfl rfl (by kernel_rfl) rfl (hh.tk 0 (by kernel_rfl)) (by simp only [List.length_map, List.length_cons, List.length_nil]) (.inl ⟨40, by kernel_rfl, rfl⟩) (by simp only [List.length_map, bytesD_len, List.length_cons, List.length_nil]; omega) (by simp only [List.length_map, bytesD_len, List.length_cons, List.length_nil]; omega) (fun S_ u_ => ?_)
  replace hh := hh.tkS' 0 (by kernel_rfl) u_ (n := (x1 ++ ([(⟨false, IntKind.wrap .i64 (rd v1 x2 0), [], (⟨0, 0⟩ : Point)⟩ : Cell)] : List Cell)).length) (by first | rfl | (simp [bytesD_len]; done) | (simp [bytesD_len]; omega))
  refine fg [7, 17, 18, 19, 28] ?_
  refine tod 28 (.sl 5 ((x1.map Cell.enc) ++ [[bo false, i64 (IntKind.wrap .i64 (rd v1 x2 0)), str [], i64 0, i64 0]]) (some tk1)) (.sl 5 ((x1 ++ ([(⟨false, IntKind.wrap .i64 (rd v1 x2 0), [], (⟨0, 0⟩ : Point)⟩ : Cell)] : List Cell)).map Cell.enc) (some tk1)) (by kernel_rfl) (by first | rw [List.map_append]; done | (simp only [List.map_append]; done) | (simp only [List.map_append]; rfl) | (rw [List.map_append]; rfl)) ?_
  refine seg 1 [7, 8, 17, 18, 19] [(8, .sl 5 ((x1 ++ ([(⟨false, IntKind.wrap .i64 (rd v1 x2 0), [], (⟨0, 0⟩ : Point)⟩ : Cell)] : List Cell)).map Cell.enc) (some tk1))] [] (by kernel_rfl) (by kernel_rfl) ?_
  refine AOps_end ?_
  refine ablock_n ?_
  refine athen_n ?_
  refine AT_region ?_
  refine seg 2 [7, 8, 17, 18, 19] [(19, i64 (IntKind.wrap .i64 (x2 + 1)))] [] (by kernel_rfl) (by kernel_rfl) ?_
  refine zn ?_
  exact ⟨k1, (by omega), (by omega), x1 ++ ([(⟨false, IntKind.wrap .i64 (rd v1 x2 0), [], (⟨0, 0⟩ : Point)⟩ : Cell)] : List Cell), IntKind.wrap .i64 (x2 + 1), tk1, (le_rf (by kernel_rfl)), h, (hh.sub [0] (by decide) (by kernel_rfl))⟩
def varint_Zag.f (a0 : Int) : Option (Int) := some (ibits .xor .i64 (IntKind.wrap .i64 (Int.fdiv a0 (2 ^ min (1 : Int).toNat 64))) (IntKind.wrap .i64 (0 - (IntKind.wrap .i64 (ibits .and .u64 a0 1)))))
theorem varint_Zag.ok (a0 : Int) (S : Store) (r : Int) (h : varint_Zag.f a0 = some r) : ACalls Try.prog 65 [u64 a0] S (fun r_ S_ => r_ = i64 r ∧ Own S [] S_ []) := by
  unfold varint_Zag.f at h
  refine acalls_of Try.func65 rfl ?_
  have hh := Own.nil (S := S)
  refine AT_forget 0x1 (mkS 11 [(0, u64 a0)]) (by kernel_rfl) ?_
  refine zsr ?_
  refine seg 1 [0] [] [] (by kernel_rfl) (by kernel_rfl) ?_
  refine znsr ?_
  refine segc 2 [0, 4] [(4, u64 (Int.fdiv a0 (2 ^ min (1 : Int).toNat 64)))] ((0 : Int) ≤ 1) [2, 3, 4, 5, 6, 7, 8] (by kernel_rfl) (by kernel_rfl) ((by show (0 : Int) ≤ 1; decide)) ?_
  refine seg 1 [0, 5] [(5, i64 (IntKind.wrap .i64 (Int.fdiv a0 (2 ^ min (1 : Int).toNat 64))))] [3, 4, 5, 6, 7, 8] (by kernel_rfl) (by kernel_rfl) ?_
  refine seg 3 [5, 8] [(8, i64 (IntKind.wrap .i64 (ibits .and .u64 a0 1)))] [6, 7, 8] (by kernel_rfl) (by kernel_rfl) ?_
  refine seg 1 [5, 9] [(9, i64 (IntKind.wrap .i64 (0 - (IntKind.wrap .i64 (ibits .and .u64 a0 1)))))] [7, 8] (by kernel_rfl) (by kernel_rfl) ?_
  refine seg 1 [10] [(10, i64 (ibits .xor .i64 (IntKind.wrap .i64 (Int.fdiv a0 (2 ^ min (1 : Int).toNat 64))) (IntKind.wrap .i64 (0 - (IntKind.wrap .i64 (ibits .and .u64 a0 1))))))] [8] (by kernel_rfl) (by kernel_rfl) ?_
  refine seg 1 [2] [(2, i64 (ibits .xor .i64 (IntKind.wrap .i64 (Int.fdiv a0 (2 ^ min (1 : Int).toNat 64))) (IntKind.wrap .i64 (0 - (IntKind.wrap .i64 (ibits .and .u64 a0 1))))))] [] (by kernel_rfl) (by kernel_rfl) ?_
  refine zn ?_
  refine AT_ret ?_
  have e_ := Option.some.inj h
  subst e_
  exact ⟨[i64 (ibits .xor .i64 (IntKind.wrap .i64 (Int.fdiv a0 (2 ^ min (1 : Int).toNat 64))) (IntKind.wrap .i64 (0 - (IntKind.wrap .i64 (ibits .and .u64 a0 1)))))], _, S, (.of (by kernel_rfl)), D.le.refl _, Store.le.refl _, rfl, hh⟩
def cursor_Cursor_Bad_s0.f (a0 : Cursor) : Option (Bool) := some a0.bad
theorem cursor_Cursor_Bad_s0.ok (a0 : Cursor) (S : Store) (B : List (Bool × Nat)) (b0 : Nat) (hh : Own S B S [.o b0 (.cells 77 [.sl 1 (a0.left.map eB) none, bo a0.bad])]) (r : Bool) (h : cursor_Cursor_Bad_s0.f a0 = some r) : ACalls Try.prog 23 [.ob b0 0] S (fun r_ S_ => r_ = bo r ∧ Own S B S_ [.o b0 (.cells 77 [.sl 1 (a0.left.map eB) none, bo a0.bad])]) := by
  unfold cursor_Cursor_Bad_s0.f at h
  refine acalls_of Try.func23 rfl ?_
  refine AT_forget 0x1 (mkS 7 [(0, .ob b0 0)]) (by kernel_rfl) ?_
  refine zsr ?_
  refine seg 1 [0] [] [] (by kernel_rfl) (by kernel_rfl) ?_
  refine znsr ?_
  refine seg 3 [5] [(5, .ob b0 1)] [3, 4] (by kernel_rfl) (by kernel_rfl) ?_
  refine AOps_load (T := 77) (off := 1) (cs := [.sl 1 (a0.left.map eB) none, bo a0.bad]) (bo a0.bad) (tl_get rfl) rfl rfl rfl (hh.ob 0 (by kernel_rfl)) (.inr ⟨by kernel_rfl, by kernel_rfl⟩) ?_
  refine fg [6] ?_
  refine seg 1 [2] [(2, bo a0.bad)] [] (by kernel_rfl) (by kernel_rfl) ?_
  refine zn ?_
  refine AT_ret ?_
  have e_ := Option.some.inj h
  subst e_
  exact ⟨[bo a0.bad], _, S, (.of (by kernel_rfl)), D.le.refl _, Store.le.refl _, rfl, hh⟩
def cursor_Cursor_End_s0.f (a0 : Cursor) : Option (Bool) := if (!a0.bad) = true then (some ((a0.left.length : Int) == 0)) else (some false)
theorem cursor_Cursor_End_s0.ok (a0 : Cursor) (S : Store) (B : List (Bool × Nat)) (b0 : Nat) (hh : Own S B S [.o b0 (.cells 77 [.sl 1 (a0.left.map eB) none, bo a0.bad])]) (r : Bool) (h : cursor_Cursor_End_s0.f a0 = some r) : ACalls Try.prog 24 [.ob b0 0] S (fun r_ S_ => r_ = bo r ∧ Own S B S_ [.o b0 (.cells 77 [.sl 1 (a0.left.map eB) none, bo a0.bad])]) := by
  unfold cursor_Cursor_End_s0.f at h
  refine acalls_of Try.func24 rfl ?_
  refine AT_forget 0x1 (mkS 16 [(0, .ob b0 0)]) (by kernel_rfl) ?_
  refine zsr ?_
  refine seg 1 [0] [] [] (by kernel_rfl) (by kernel_rfl) ?_
  refine znsr ?_
  refine seg 3 [0, 5] [(5, .ob b0 1)] [3, 4, 5, 6, 7, 8, 9, 10, 11, 12, 13] (by kernel_rfl) (by kernel_rfl) ?_
  refine AOps_load (T := 77) (off := 1) (cs := [.sl 1 (a0.left.map eB) none, bo a0.bad]) (bo a0.bad) (tl_get rfl) rfl rfl rfl (hh.ob 0 (by kernel_rfl)) (.inr ⟨by kernel_rfl, by kernel_rfl⟩) ?_
  refine fg [0, 6] ?_
  refine seg 2 [0, 8] [(8, bo (!a0.bad))] [6, 7, 8, 9, 10, 11, 12, 13] (by kernel_rfl) (by kernel_rfl) ?_
  refine casedR 8 (!a0.bad) (by kernel_rfl) (fun hc1 => ?_) (fun hc1 => ?_)
  · rw [if_f hc1] at h
    refine seg 8 [2] [(2, bo false)] [] (by kernel_rfl) (by kernel_rfl) ?_
    refine zn ?_
    refine AT_ret ?_
    have e_ := Option.some.inj h
    subst e_
    exact ⟨[bo false], _, S, (.of (by kernel_rfl)), D.le.refl _, Store.le.refl _, rfl, hh⟩
  rw [if_t hc1] at h
  refine seg 3 [8, 11] [(11, .ob b0 0)] [9, 10, 11, 12, 13] (by kernel_rfl) (by kernel_rfl) ?_
  refine AOps_load (T := 77) (off := 0) (cs := [.sl 1 (a0.left.map eB) none, bo a0.bad]) (.sl 1 (a0.left.map eB) none) (tl_get rfl) rfl rfl rfl (hh.ob 0 (by kernel_rfl)) (.inr ⟨by kernel_rfl, by kernel_rfl⟩) ?_
  refine fg [8, 12] ?_
  refine seg 1 [8, 13] [(13, i64 ((a0.left.map eB).length : Int))] [11, 12, 13] (by kernel_rfl) (by kernel_rfl) ?_
  refine tod 13 (i64 ((a0.left.map eB).length : Int)) (i64 (a0.left.length : Int)) (by kernel_rfl) (by rw [List.length_map]) ?_
  refine seg 3 [2] [(2, bo ((a0.left.length : Int) == 0))] [] (by kernel_rfl) (by kernel_rfl) ?_
  refine zn ?_
  refine AT_ret ?_
  have e_ := Option.some.inj h
  subst e_
  exact ⟨[bo ((a0.left.length : Int) == 0)], _, S, (.of (by kernel_rfl)), D.le.refl _, Store.le.refl _, rfl, hh⟩
def cursor_Cursor_Fail_s0.f (a0 : Cursor) : Option (Cursor) := some (⟨([] : List UInt8), true⟩ : Cursor)
theorem cursor_Cursor_Fail_s0.ok (a0 : Cursor) (S : Store) (B : List (Bool × Nat)) (b0 : Nat) (hh : Own S B S [.o b0 (.cells 77 [.sl 1 (a0.left.map eB) none, bo a0.bad])]) (r : Cursor) (h : cursor_Cursor_Fail_s0.f a0 = some r) : ACalls Try.prog 35 [.ob b0 0] S (fun r_ S_ => r_ = .tup [] ∧ Own S B S_ [.o b0 (.cells 77 [.sl 1 (r.left.map eB) none, bo r.bad])]) := by
  unfold cursor_Cursor_Fail_s0.f at h
  refine acalls_of Try.func35 rfl ?_
  refine AT_forget 0x1 (mkS 8 [(0, .ob b0 0)]) (by kernel_rfl) ?_
  refine AT_region ?_
  refine seg 4 [3, 5] [(3, .ob b0 0), (5, .ob b0 0)] [4, 5, 6, 7] (by kernel_rfl) (by kernel_rfl) ?_
  refine AOps_putV (T := 77) (off := 0) (cs := [.sl 1 (a0.left.map eB) none, bo a0.bad]) (ds := [nilS]) (cs' := [.sl 1 (([] : List UInt8).map eB) none, bo a0.bad]) (tl_get rfl) rfl rfl rfl (hh.ob 0 (by kernel_rfl)) rfl (by kernel_rfl) (Nat.le_of_ble_eq_true rfl) (.cons (nil_le) (.cons (D.le.refl _) (.nil))) (fun S_ u_ => ?_)
  replace hh := hh.obS' 0 (by kernel_rfl) u_
  refine fg0 [3] ?_
  refine seg 2 [7] [(7, .ob b0 1)] [7] (by kernel_rfl) (by kernel_rfl) ?_
  refine AOps_putV (T := 77) (off := 1) (cs := [.sl 1 (([] : List UInt8).map eB) none, bo a0.bad]) (ds := [bo true]) (cs' := [.sl 1 (([] : List UInt8).map eB) none, bo true]) (tl_get rfl) rfl rfl rfl (hh.ob 0 (by kernel_rfl)) rfl (by kernel_rfl) (Nat.le_of_ble_eq_true rfl) (LeL.refl _) (fun S_ u_ => ?_)
  replace hh := hh.obS' 0 (by kernel_rfl) u_
  refine fg0 [] ?_
  refine AOps_end ?_
  have e_ := Option.some.inj h
  subst e_
  exact ⟨[], _, S_, (.of (by kernel_rfl)), D.le.refl _, Store.le.refl _, rfl, hh⟩
def cursor_Cursor_Take_s0.f (a0 : Cursor) (a1 : Int) : Option ((List UInt8) × Cursor) := if a0.bad = true then ((cursor_Cursor_Fail_s0.f a0).bind fun v4 => (some (([] : List UInt8), v4))) else (if (decide (a1 < 0)) = true then ((cursor_Cursor_Fail_s0.f a0).bind fun v5 => (some (([] : List UInt8), v5))) else (if (decide (a1 > (a0.left.length : Int))) = true then ((cursor_Cursor_Fail_s0.f a0).bind fun v6 => (some (([] : List UInt8), v6))) else (if 0 ≤ a1 ∧ a1 ≤ (a0.left.length : Int) then ((slices_Clone_byte.f (a0.left.take (a1 : Int).toNat)).bind fun v7 => (if 0 ≤ a1 ∧ a1 ≤ (a0.left.length : Int) then (some (v7, (⟨a0.left.drop (a1 : Int).toNat, a0.bad⟩ : Cursor))) else none)) else none)))
theorem cursor_Cursor_Take_s0.ok (a0 : Cursor) (a1 : Int) (S : Store) (B : List (Bool × Nat)) (b0 : Nat) (hh : Own S B S [.o b0 (.cells 77 [.sl 1 (a0.left.map eB) none, bo a0.bad])]) (r0 : (List UInt8)) (c0_ : Cursor) (h : cursor_Cursor_Take_s0.f a0 a1 = some (r0, c0_)) : ACalls Try.prog 39 [.ob b0 0, i64 a1] S (fun r_ S_ => ∃ (u0 : Nat), r_ = .sl 1 (r0.map eB) (some u0) ∧ Own S B S_ [.o b0 (.cells 77 [.sl 1 (c0_.left.map eB) none, bo c0_.bad]), .t u0 (r0).length 1]) := by
  unfold cursor_Cursor_Take_s0.f at h
  refine acalls_of Try.func39 rfl ?_
  refine AT_forget 0x3 (mkS 42 [(0, .ob b0 0), (1, i64 a1)]) (by kernel_rfl) ?_
  refine zsr ?_
  refine seg 1 [0, 1] [] [] (by kernel_rfl) (by kernel_rfl) ?_
  refine zn ?_
  refine AT_seq ?_
  refine zsr ?_
  refine seg 3 [0, 1, 8] [(8, .ob b0 1)] [3, 4, 5, 6, 7, 8, 9, 10, 11, 12, 13, 14, 15, 16] (by kernel_rfl) (by kernel_rfl) ?_
  refine AOps_load (T := 77) (off := 1) (cs := [.sl 1 (a0.left.map eB) none, bo a0.bad]) (bo a0.bad) (tl_get rfl) rfl rfl rfl (hh.ob 0 (by kernel_rfl)) (.inr ⟨by kernel_rfl, by kernel_rfl⟩) ?_
  refine fg [0, 1, 9] ?_
  refine seg 1 [0, 1, 10] [(10, bo a0.bad)] [5, 6, 7, 8, 9, 10, 11, 12, 13, 14, 15, 16] (by kernel_rfl) (by kernel_rfl) ?_
  refine cased 10 a0.bad (by kernel_rfl) (fun hc4 => ?_) (fun hc4 => ?_)
  · rw [if_t hc4] at h
    refine seg 12 [0, 1, 22] [(22, bo true)] [] (by kernel_rfl) (by kernel_rfl) ?_
    refine zn ?_
    refine AT_cond_t (by kernel_rfl) ?_
    refine zsr ?_
    refine seg 1 [23] [(23, .ob b0 0)] [1] (by kernel_rfl) (by kernel_rfl) ?_
    obtain ⟨v4, ht4, h⟩ := bs h
    refine AOps_callR _ [.ob b0 0] (tl_get rfl) rfl rfl rfl rfl Try.func35 (by decide) rfl ((.cons (D.le.refl _) (.nil))) (cursor_Cursor_Fail_s0.ok a0 _ _ b0 ((hh.have_ [0] (by decide) (by kernel_rfl)).own) _ ht4) ?_
    rintro _ S_ ⟨rfl, h2_⟩
    replace hh := hh.call [0] [] (by decide) (by kernel_rfl) h2_ rfl
    refine fg [24] ?_
    refine znsr ?_
    refine seg 1 [4] [(4, nilS)] [] (by kernel_rfl) (by kernel_rfl) ?_
    refine zn ?_
    refine AT_nilU 4 1 (fun tk_ => mkS 42 [(4, .sl 1 [] (some tk_))]) (by kernel_rfl) (fun tk_ => by kernel_rfl) (fun S_ t4 hf_ u_ => ?_)
    replace hh := hh.tkN' hf_ u_ (n := (([] : List UInt8)).length) (by first | rfl | (simp [bytesD_len]; done) | (simp [bytesD_len]; omega))
    refine AT_ret ?_
    refine athen_r ?_
    have e0_ : ([] : List UInt8) = r0 := congrArg (fun p_ => p_.1) (Option.some.inj h)
    have e1_ : v4 = c0_ := congrArg (fun p_ => p_.2) (Option.some.inj h)
    subst e0_
    subst e1_
    exact ⟨[.sl 1 [] (some t4)], _, S_, (.of (by kernel_rfl)), D.le.refl _, Store.le.refl _, t4, rfl, hh⟩
  rw [if_f hc4] at h
  refine seg 4 [0, 1, 14] [(14, bo (decide (a1 < 0)))] [9, 10, 11, 12, 13, 14, 15, 16] (by kernel_rfl) (by kernel_rfl) ?_
  refine cased 14 (decide (a1 < 0)) (by kernel_rfl) (fun hc5 => ?_) (fun hc5 => ?_)
  · rw [if_t hc5] at h
    refine seg 8 [0, 1, 22] [(22, bo true)] [] (by kernel_rfl) (by kernel_rfl) ?_
    refine zn ?_
    refine AT_cond_t (by kernel_rfl) ?_
    refine zsr ?_
    refine seg 1 [23] [(23, .ob b0 0)] [1] (by kernel_rfl) (by kernel_rfl) ?_
    obtain ⟨v5, ht5, h⟩ := bs h
    refine AOps_callR _ [.ob b0 0] (tl_get rfl) rfl rfl rfl rfl Try.func35 (by decide) rfl ((.cons (D.le.refl _) (.nil))) (cursor_Cursor_Fail_s0.ok a0 _ _ b0 ((hh.have_ [0] (by decide) (by kernel_rfl)).own) _ ht5) ?_
    rintro _ S_ ⟨rfl, h2_⟩
    replace hh := hh.call [0] [] (by decide) (by kernel_rfl) h2_ rfl
    refine fg [24] ?_
    refine znsr ?_
    refine AOps_seg 1 0x10 (mkS 42 [(4, nilS)]) none [] (by kernel_rfl) (by kernel_rfl) trivial ?_
    refine zn ?_
    refine AT_nilU 4 1 (fun tk_ => mkS 42 [(4, .sl 1 [] (some tk_))]) (by kernel_rfl) (fun tk_ => by kernel_rfl) (fun S_ t5 hf_ u_ => ?_)
    replace hh := hh.tkN' hf_ u_ (n := (([] : List UInt8)).length) (by first | rfl | (simp [bytesD_len]; done) | (simp [bytesD_len]; omega))
    refine AT_ret ?_
    refine athen_r ?_
    have e0_ : ([] : List UInt8) = r0 := congrArg (fun p_ => p_.1) (Option.some.inj h)
    have e1_ : v5 = c0_ := congrArg (fun p_ => p_.2) (Option.some.inj h)
    subst e0_
    subst e1_
    exact ⟨[.sl 1 [] (some t5)], _, S_, (.of (by kernel_rfl)), D.le.refl _, Store.le.refl _, t5, rfl, hh⟩
  rw [if_f hc5] at h
  refine seg 4 [0, 1, 14, 15, 18] [(15, i64 a1), (18, .ob b0 0)] [13, 14, 15, 16] (by kernel_rfl) (by kernel_rfl) ?_
  refine AOps_load (T := 77) (off := 0) (cs := [.sl 1 (a0.left.map eB) none, bo a0.bad]) (.sl 1 (a0.left.map eB) none) (tl_get rfl) rfl rfl rfl (hh.ob 0 (by kernel_rfl)) (.inr ⟨by kernel_rfl, by kernel_rfl⟩) ?_
  refine fg [0, 1, 14, 15, 19] ?_
  refine seg 1 [0, 1, 14, 15, 20] [(20, i64 ((a0.left.map eB).length : Int))] [15, 16] (by kernel_rfl) (by kernel_rfl) ?_
  refine tod 20 (i64 ((a0.left.map eB).length : Int)) (i64 (a0.left.length : Int)) (by kernel_rfl) (by rw [List.length_map]) ?_
  refine AOps_seg 2 0x400003 (mkS 42 [(0, .ob b0 0), (1, i64 a1), (22, bo (decide (a1 > (a0.left.length : Int))))]) none [] (by kernel_rfl) (by kernel_rfl) trivial ?_
  refine zn ?_
  refine AT_condS (decide (a1 > (a0.left.length : Int))) (by kernel_rfl) (fun hc6 => ?_) (fun hc6 => ?_)
  · rw [if_t hc6] at h
    refine zsr ?_
    refine seg 1 [23] [(23, .ob b0 0)] [1] (by kernel_rfl) (by kernel_rfl) ?_
    obtain ⟨v6, ht6, h⟩ := bs h
    refine AOps_callR _ [.ob b0 0] (tl_get rfl) rfl rfl rfl rfl Try.func35 (by decide) rfl ((.cons (D.le.refl _) (.nil))) (cursor_Cursor_Fail_s0.ok a0 _ _ b0 ((hh.have_ [0] (by decide) (by kernel_rfl)).own) _ ht6) ?_
    rintro _ S_ ⟨rfl, h2_⟩
    replace hh := hh.call [0] [] (by decide) (by kernel_rfl) h2_ rfl
    refine fg [24] ?_
    refine znsr ?_
    refine seg 1 [4] [(4, nilS)] [] (by kernel_rfl) (by kernel_rfl) ?_
    refine zn ?_
    refine AT_nilU 4 1 (fun tk_ => mkS 42 [(4, .sl 1 [] (some tk_))]) (by kernel_rfl) (fun tk_ => by kernel_rfl) (fun S_ t6 hf_ u_ => ?_)
    replace hh := hh.tkN' hf_ u_ (n := (([] : List UInt8)).length) (by first | rfl | (simp [bytesD_len]; done) | (simp [bytesD_len]; omega))
    refine AT_ret ?_
    refine athen_r ?_
    have e0_ : ([] : List UInt8) = r0 := congrArg (fun p_ => p_.1) (Option.some.inj h)
    have e1_ : v6 = c0_ := congrArg (fun p_ => p_.2) (Option.some.inj h)
    subst e0_
    subst e1_
    exact ⟨[.sl 1 [] (some t6)], _, S_, (.of (by kernel_rfl)), D.le.refl _, Store.le.refl _, t6, rfl, hh⟩
  rw [if_f hc6] at h
  refine zkn ?_
  refine zsr ?_
  refine seg 3 [0, 1, 27] [(27, .ob b0 0)] [3, 4, 5, 6, 7] (by kernel_rfl) (by kernel_rfl) ?_
  refine AOps_load (T := 77) (off := 0) (cs := [.sl 1 (a0.left.map eB) none, bo a0.bad]) (.sl 1 (a0.left.map eB) none) (tl_get rfl) rfl rfl rfl (hh.ob 0 (by kernel_rfl)) (.inr ⟨by kernel_rfl, by kernel_rfl⟩) ?_
  refine fg [0, 1, 28] ?_
  obtain ⟨hi3, h⟩ := is h
  refine segc 2 [0, 1, 30] [(30, .sl 1 ((a0.left.map eB).take (a1 : Int).toNat) none)] (0 ≤ a1 ∧ a1 ≤ ((a0.left.map eB).length : Int)) [6, 7] (by kernel_rfl) (by kernel_rfl) ((by rw [List.length_map]; exact hi3)) ?_
  refine tod 30 (.sl 1 ((a0.left.map eB).take (a1 : Int).toNat) none) (.sl 1 ((a0.left.take (a1 : Int).toNat).map eB) none) (by kernel_rfl) (by simp only [List.map_take, List.map_drop]) ?_
  obtain ⟨v7, ht7, h⟩ := bs h
  refine AOps_callR _ [.sl 1 ((a0.left.take (a1 : Int).toNat).map eB) none] (tl_get rfl) rfl rfl rfl rfl Try.func29 (by decide) rfl ((.cons (D.le.refl _) (.nil))) (slices_Clone_byte.ok (a0.left.take (a1 : Int).toNat) _  _ ht7) ?_
  rintro _ S_ ⟨t7, rfl, h2_⟩
  replace hh := hh.calln h2_
  refine fg [0, 1, 31] ?_
  refine seg 1 [0, 1, 5] [(5, .sl 1 (v7.map eB) (some t7))] [] (by kernel_rfl) (by kernel_rfl) ?_
  refine znsr ?_
  refine seg 4 [1, 5, 32, 35] [(32, .ob b0 0), (35, .ob b0 0)] [4, 5, 6, 7, 8, 9] (by kernel_rfl) (by kernel_rfl) ?_
  refine AOps_load (T := 77) (off := 0) (cs := [.sl 1 (a0.left.map eB) none, bo a0.bad]) (.sl 1 (a0.left.map eB) none) (tl_get rfl) rfl rfl rfl (hh.ob 1 (by kernel_rfl)) (.inr ⟨by kernel_rfl, by kernel_rfl⟩) ?_
  refine fg [1, 5, 32, 36] ?_
  obtain ⟨hi4, h⟩ := is h
  refine segc 2 [5, 32, 38] [(38, .sl 1 ((a0.left.map eB).drop (a1 : Int).toNat) none)] (0 ≤ a1 ∧ a1 ≤ ((a0.left.map eB).length : Int)) [7, 8, 9] (by kernel_rfl) (by kernel_rfl) ((by rw [List.length_map]; exact hi4)) ?_
  refine tod 38 (.sl 1 ((a0.left.map eB).drop (a1 : Int).toNat) none) (.sl 1 ((a0.left.drop (a1 : Int).toNat).map eB) none) (by kernel_rfl) (by simp only [List.map_take, List.map_drop]) ?_
  refine AOps_seg 2 0x14000000020 (mkS 42 [(5, .sl 1 (v7.map eB) (some t7)), (38, .sl 1 ((a0.left.drop (a1 : Int).toNat).map eB) none), (40, .ob b0 0)]) none [9] (by kernel_rfl) (by kernel_rfl) trivial ?_
  refine AOps_putV (T := 77) (off := 0) (cs := [.sl 1 (a0.left.map eB) none, bo a0.bad]) (ds := [.sl 1 ((a0.left.drop (a1 : Int).toNat).map eB) none]) (cs' := [.sl 1 ((a0.left.drop (a1 : Int).toNat).map eB) none, bo a0.bad]) (tl_get rfl) rfl rfl rfl (hh.ob 1 (by kernel_rfl)) rfl (by kernel_rfl) (Nat.le_of_ble_eq_true rfl) (LeL.refl _) (fun S_ u_ => ?_)
  replace hh := hh.obS' 1 (by kernel_rfl) u_
  refine fg0 [5] ?_
  refine znsr ?_
  refine seg 2 [4] [(4, .sl 1 (v7.map eB) (some t7))] [] (by kernel_rfl) (by kernel_rfl) ?_
  refine zn ?_
  refine AT_ret ?_
  have e0_ : v7 = r0 := congrArg (fun p_ => p_.1) (Option.some.inj h)
  have e1_ : (⟨a0.left.drop (a1 : Int).toNat, a0.bad⟩ : Cursor) = c0_ := congrArg (fun p_ => p_.2) (Option.some.inj h)
  subst e0_
  subst e1_
  exact ⟨[.sl 1 (v7.map eB) (some t7)], _, S_, (.of (by kernel_rfl)), D.le.refl _, Store.le.refl _, t7, rfl, (hh.sub [1, 0] (by decide) (by kernel_rfl))⟩
def cursor_read_uint64_s0.l0 : Nat → (List UInt8) → Cursor → Int → Int → Option (Int × Cursor)
  | 0, _, _, _, _ => none
  | k + 1, v1, v2, x1, x2 => if (decide (x2 < (v1.length : Int))) = true then (if 0 ≤ x2 ∧ x2 < (v1.length : Int) then (if 0 ≤ (IntKind.wrap .i64 (8 * x2)) then (cursor_read_uint64_s0.l0 k v1 v2 (ibits .or .u64 x1 (IntKind.wrap .u64 ((IntKind.wrap .u64 ((rd v1 x2 0).toNat : Int)) * 2 ^ min (IntKind.wrap .i64 (8 * x2) : Int).toNat 64))) (IntKind.wrap .i64 (x2 + 1))) else none) else none) else (some (x1, v2))
def cursor_read_uint64_s0.f (k : Nat) (a0 : Cursor) (a1 : Int) : Option (Int × Cursor) := (cursor_Cursor_Take_s0.f a0 a1).bind fun q_v1 => (cursor_read_uint64_s0.l0 k q_v1.1 q_v1.2 0 0)
theorem cursor_read_uint64_s0.mono_l : ∀ k, (∀ y0 y1 y2 y3, LeO (cursor_read_uint64_s0.l0 k y0 y1 y2 y3) (cursor_read_uint64_s0.l0 (k + 1) y0 y1 y2 y3))
  | 0 => fun _ _ _ _ r h => (by simp only [cursor_read_uint64_s0.l0] at h; cases h)
  | k + 1 => by
    have ih := cursor_read_uint64_s0.mono_l k
    · intro y0 y1 y2 y3
      rw [cursor_read_uint64_s0.l0, cursor_read_uint64_s0.l0]
      repeat' first
        | exact LeO.refl _
        | exact LeO.none _
        | exact ih _ _ _ _
        | refine LeO.ite ?_ ?_
        | refine LeO.bind ?_ (fun _ => ?_)
theorem cursor_read_uint64_s0.mono (k : Nat) (a0 : Cursor) (a1 : Int) : LeO (cursor_read_uint64_s0.f k a0 a1) (cursor_read_uint64_s0.f (k + 1) a0 a1) := by
  unfold cursor_read_uint64_s0.f
  repeat' first
    | exact LeO.refl _
    | exact LeO.none _
    | exact (cursor_read_uint64_s0.mono_l k) _ _ _ _
    | refine LeO.ite ?_ ?_
    | refine LeO.bind ?_ (fun _ => ?_)
theorem cursor_read_uint64_s0.ok (k : Nat) (a0 : Cursor) (a1 : Int) (S : Store) (B : List (Bool × Nat)) (b0 : Nat) (hh : Own S B S [.o b0 (.cells 77 [.sl 1 (a0.left.map eB) none, bo a0.bad])]) (r0 : Int) (c0_ : Cursor) (h : cursor_read_uint64_s0.f k a0 a1 = some (r0, c0_)) : ACalls Try.prog 77 [.ob b0 0, i64 a1] S (fun r_ S_ => r_ = u64 r0 ∧ Own S B S_ [.o b0 (.cells 77 [.sl 1 (c0_.left.map eB) none, bo c0_.bad])]) := by
  unfold cursor_read_uint64_s0.f at h
  refine acalls_of Try.func77 rfl ?_
  refine AT_forget 0x3 (mkS 26 [(0, .ob b0 0), (1, i64 a1)]) (by kernel_rfl) ?_
  refine zsr ?_
  refine seg 1 [0, 1] [] [] (by kernel_rfl) (by kernel_rfl) ?_
  refine znsr ?_
  refine seg 1 [0, 1, 5] [(5, u64 0)] [] (by kernel_rfl) (by kernel_rfl) ?_
  refine zn ?_
  refine AT_seq ?_
  refine zsr ?_
  refine seg 2 [5, 8, 9] [(8, .ob b0 0), (9, i64 a1)] [2, 3, 4] (by kernel_rfl) (by kernel_rfl) ?_
  obtain ⟨⟨v1, v2⟩, ht1, h⟩ := bs h
  simp only at h
  refine AOps_callR _ [.ob b0 0, i64 a1] (tl_get rfl) rfl rfl rfl rfl Try.func39 (by decide) rfl ((.cons (D.le.refl _) (.cons (D.le.refl _) (.nil)))) (cursor_Cursor_Take_s0.ok a0 a1 _ _ b0 ((hh.have_ [0] (by decide) (by kernel_rfl)).own) _ _ ht1) ?_
  rintro _ S_ ⟨t1, rfl, h2_⟩
  replace hh := hh.call [0] [] (by decide) (by kernel_rfl) h2_ rfl
  refine fg [5, 10] ?_
  refine seg 1 [5, 10, 11] [(11, i64 ((v1.map eB).length : Int))] [4] (by kernel_rfl) (by kernel_rfl) ?_
  refine tod 11 (i64 ((v1.map eB).length : Int)) (i64 (v1.length : Int)) (by kernel_rfl) (by rw [List.length_map]) ?_
  refine seg 1 [5, 10, 11, 12] [(12, i64 0)] [] (by kernel_rfl) (by kernel_rfl) ?_
  refine zn ?_
  refine AT_block ?_
  refine AT_loopM 0x1c20 (fun k_ sl_ S_ => k_ ≤ k ∧ ∃ (x1 : Int), ∃ (x2 : Int), ∃ (tk1 : Nat), LeL sl_ (mkS 26 [(5, u64 x1), (10, .sl 1 (v1.map eB) (some tk1)), (11, i64 (v1.length : Int)), (12, i64 x2)]) ∧ cursor_read_uint64_s0.l0 k_ v1 v2 x1 x2 = some (r0, c0_) ∧ Own S B S_ [.o b0 (.cells 77 [.sl 1 (v2.left.map eB) none, bo v2.bad]), .t tk1 (v1).length 1]) k ⟨Nat.le_refl _, 0, 0, t1, (le_rf (by kernel_rfl)), h, hh⟩ ?_
  clear hh h
  rintro k' sl_ S_ ⟨hk_, x1, x2, tk1, hl_, h, hh⟩
  refine AT_weaken hl_ ?_
  obtain _ | k1 := k'
  · cases h
  rw [cursor_read_uint64_s0.l0] at h
  refine zsr ?_
  refine seg 1 [5, 10, 11, 12, 13] [(13, bo (decide (x2 < (v1.length : Int))))] [] (by kernel_rfl) (by kernel_rfl) ?_
  refine zn ?_
  refine AT_seq ?_
  refine AT_condR (decide (x2 < (v1.length : Int))) (by kernel_rfl) (fun hc1 => ?_) (fun hc1 => ?_)
  · rw [if_f hc1] at h
    refine AT_exit ?_
    refine athen_e ?_
    refine athen_e ?_
    refine ablock_h ?_
    refine athen_n ?_
    refine zsr ?_
    refine seg 2 [4] [(4, u64 x1)] [] (by kernel_rfl) (by kernel_rfl) ?_
    refine zn ?_
    refine AT_ret ?_
    have e0_ : x1 = r0 := congrArg (fun p_ => p_.1) (Option.some.inj h)
    have e1_ : v2 = c0_ := congrArg (fun p_ => p_.2) (Option.some.inj h)
    subst e0_
    subst e1_
    exact ⟨[u64 x1], _, S_, (.of (by kernel_rfl)), D.le.refl _, Store.le.refl _, rfl, (hh.sub [0] (by decide) (by kernel_rfl))⟩
  rw [if_t hc1] at h
  refine zkn ?_
  refine AT_seq ?_
  refine AT_block ?_
  refine zsr ?_
  obtain ⟨hi2, h⟩ := is h
  refine segc 2 [5, 10, 11, 12, 14, 15] [(14, i64 x2), (15, .pt ((v1.map eB).getD (x2 : Int).toNat []))] (0 ≤ x2 ∧ x2 < ((v1.map eB).length : Int)) [2, 3, 4] (by kernel_rfl) (by kernel_rfl) (idx_ok hi2) ?_
  refine tod 15 (.pt ((v1.map eB).getD (x2 : Int).toNat [])) (.pt [u8 ((rd v1 x2 0).toNat : Int)]) (by kernel_rfl) (by rw [pt_rd eB v1 x2 0 hi2.1 hi2.2]) ?_
  refine seg 3 [5, 6, 7, 10, 11, 12] [(6, i64 x2), (7, u8 ((rd v1 x2 0).toNat : Int))] [] (by kernel_rfl) (by kernel_rfl) ?_
  refine znr ?_
  obtain ⟨hi3, h⟩ := is h
  refine segc 6 [10, 11, 12, 17, 22] [(17, u64 x1), (22, u64 (IntKind.wrap .u64 ((IntKind.wrap .u64 ((rd v1 x2 0).toNat : Int)) * 2 ^ min (IntKind.wrap .i64 (8 * x2) : Int).toNat 64)))] (0 ≤ (IntKind.wrap .i64 (8 * x2))) [6, 7] (by kernel_rfl) (by kernel_rfl) (hi3) ?_
  refine seg 1 [10, 11, 12, 23] [(23, u64 (ibits .or .u64 x1 (IntKind.wrap .u64 ((IntKind.wrap .u64 ((rd v1 x2 0).toNat : Int)) * 2 ^ min (IntKind.wrap .i64 (8 * x2) : Int).toNat 64))))] [7] (by kernel_rfl) (by kernel_rfl) ?_
  refine seg 1 [5, 10, 11, 12] [(5, u64 (ibits .or .u64 x1 (IntKind.wrap .u64 ((IntKind.wrap .u64 ((rd v1 x2 0).toNat : Int)) * 2 ^ min (IntKind.wrap .i64 (8 * x2) : Int).toNat 64))))] [] (by kernel_rfl) (by kernel_rfl) ?_
  refine AOps_end ?_
  refine ablock_n ?_
  refine athen_n ?_
  refine AT_region ?_
  refine seg 2 [5, 10, 11, 12] [(12, i64 (IntKind.wrap .i64 (x2 + 1)))] [] (by kernel_rfl) (by kernel_rfl) ?_
  refine zn ?_
  exact ⟨k1, (by omega), (by omega), ibits .or .u64 x1 (IntKind.wrap .u64 ((IntKind.wrap .u64 ((rd v1 x2 0).toNat : Int)) * 2 ^ min (IntKind.wrap .i64 (8 * x2) : Int).toNat 64)), IntKind.wrap .i64 (x2 + 1), tk1, (le_rf (by kernel_rfl)), h, hh⟩
def cursor_Cursor_U64_s0.f (k : Nat) (a0 : Cursor) : Option (Int × Cursor) := (cursor_read_uint64_s0.f k a0 8).bind fun q_v1 => (some (q_v1.1, q_v1.2))
theorem cursor_Cursor_U64_s0.mono (k : Nat) (a0 : Cursor) : LeO (cursor_Cursor_U64_s0.f k a0) (cursor_Cursor_U64_s0.f (k + 1) a0) := by
  unfold cursor_Cursor_U64_s0.f
  repeat' first
    | exact LeO.refl _
    | exact LeO.none _
    | exact cursor_read_uint64_s0.mono _ _ _
    | refine LeO.ite ?_ ?_
    | refine LeO.bind ?_ (fun _ => ?_)
theorem cursor_Cursor_U64_s0.ok (k : Nat) (a0 : Cursor) (S : Store) (B : List (Bool × Nat)) (b0 : Nat) (hh : Own S B S [.o b0 (.cells 77 [.sl 1 (a0.left.map eB) none, bo a0.bad])]) (r0 : Int) (c0_ : Cursor) (h : cursor_Cursor_U64_s0.f k a0 = some (r0, c0_)) : ACalls Try.prog 64 [.ob b0 0] S (fun r_ S_ => r_ = u64 r0 ∧ Own S B S_ [.o b0 (.cells 77 [.sl 1 (c0_.left.map eB) none, bo c0_.bad])]) := by
  unfold cursor_Cursor_U64_s0.f at h
  refine acalls_of Try.func64 rfl ?_
  refine AT_forget 0x1 (mkS 5 [(0, .ob b0 0)]) (by kernel_rfl) ?_
  refine zsr ?_
  refine seg 1 [0] [] [] (by kernel_rfl) (by kernel_rfl) ?_
  refine znsr ?_
  refine seg 1 [3] [(3, .ob b0 0)] [1, 2] (by kernel_rfl) (by kernel_rfl) ?_
  obtain ⟨⟨v1, v2⟩, ht1, h⟩ := bs h
  simp only at h
  refine AOps_callR _ [.ob b0 0, i64 8] (tl_get rfl) rfl rfl rfl rfl Try.func77 (by decide) rfl ((.cons (D.le.refl _) (.cons (D.le.refl _) (.nil)))) (cursor_read_uint64_s0.ok _ a0 8 _ _ b0 ((hh.have_ [0] (by decide) (by kernel_rfl)).own) _ _ ht1) ?_
  rintro _ S_ ⟨rfl, h2_⟩
  replace hh := hh.call [0] [] (by decide) (by kernel_rfl) h2_ rfl
  refine fg [4] ?_
  refine seg 1 [2] [(2, u64 v1)] [] (by kernel_rfl) (by kernel_rfl) ?_
  refine zn ?_
  refine AT_ret ?_
  have e0_ : v1 = r0 := congrArg (fun p_ => p_.1) (Option.some.inj h)
  have e1_ : v2 = c0_ := congrArg (fun p_ => p_.2) (Option.some.inj h)
  subst e0_
  subst e1_
  exact ⟨[u64 v1], _, S_, (.of (by kernel_rfl)), D.le.refl _, Store.le.refl _, rfl, hh⟩
def cursor_read_uint32_s0.l0 : Nat → (List UInt8) → Cursor → Int → Int → Option (Int × Cursor)
  | 0, _, _, _, _ => none
  | k + 1, v1, v2, x1, x2 => if (decide (x2 < (v1.length : Int))) = true then (if 0 ≤ x2 ∧ x2 < (v1.length : Int) then (if 0 ≤ (IntKind.wrap .i64 (8 * x2)) then (cursor_read_uint32_s0.l0 k v1 v2 (ibits .or .u32 x1 (IntKind.wrap .u32 ((IntKind.wrap .u32 ((rd v1 x2 0).toNat : Int)) * 2 ^ min (IntKind.wrap .i64 (8 * x2) : Int).toNat 32))) (IntKind.wrap .i64 (x2 + 1))) else none) else none) else (some (x1, v2))
def cursor_read_uint32_s0.f (k : Nat) (a0 : Cursor) (a1 : Int) : Option (Int × Cursor) := (cursor_Cursor_Take_s0.f a0 a1).bind fun q_v1 => (cursor_read_uint32_s0.l0 k q_v1.1 q_v1.2 0 0)
theorem cursor_read_uint32_s0.mono_l : ∀ k, (∀ y0 y1 y2 y3, LeO (cursor_read_uint32_s0.l0 k y0 y1 y2 y3) (cursor_read_uint32_s0.l0 (k + 1) y0 y1 y2 y3))
  | 0 => fun _ _ _ _ r h => (by simp only [cursor_read_uint32_s0.l0] at h; cases h)
  | k + 1 => by
    have ih := cursor_read_uint32_s0.mono_l k
    · intro y0 y1 y2 y3
      rw [cursor_read_uint32_s0.l0, cursor_read_uint32_s0.l0]
      repeat' first
        | exact LeO.refl _
        | exact LeO.none _
        | exact ih _ _ _ _
        | refine LeO.ite ?_ ?_
        | refine LeO.bind ?_ (fun _ => ?_)
theorem cursor_read_uint32_s0.mono (k : Nat) (a0 : Cursor) (a1 : Int) : LeO (cursor_read_uint32_s0.f k a0 a1) (cursor_read_uint32_s0.f (k + 1) a0 a1) := by
  unfold cursor_read_uint32_s0.f
  repeat' first
    | exact LeO.refl _
    | exact LeO.none _
    | exact (cursor_read_uint32_s0.mono_l k) _ _ _ _
    | refine LeO.ite ?_ ?_
    | refine LeO.bind ?_ (fun _ => ?_)
theorem cursor_read_uint32_s0.ok (k : Nat) (a0 : Cursor) (a1 : Int) (S : Store) (B : List (Bool × Nat)) (b0 : Nat) (hh : Own S B S [.o b0 (.cells 77 [.sl 1 (a0.left.map eB) none, bo a0.bad])]) (r0 : Int) (c0_ : Cursor) (h : cursor_read_uint32_s0.f k a0 a1 = some (r0, c0_)) : ACalls Try.prog 47 [.ob b0 0, i64 a1] S (fun r_ S_ => r_ = u32 r0 ∧ Own S B S_ [.o b0 (.cells 77 [.sl 1 (c0_.left.map eB) none, bo c0_.bad])]) := by
  unfold cursor_read_uint32_s0.f at h
  refine acalls_of Try.func47 rfl ?_
  refine AT_forget 0x3 (mkS 26 [(0, .ob b0 0), (1, i64 a1)]) (by kernel_rfl) ?_
  refine zsr ?_
  refine seg 1 [0, 1] [] [] (by kernel_rfl) (by kernel_rfl) ?_
  refine znsr ?_
  refine seg 1 [0, 1, 5] [(5, u32 0)] [] (by kernel_rfl) (by kernel_rfl) ?_
  refine zn ?_
  refine AT_seq ?_
  refine zsr ?_
  refine seg 2 [5, 8, 9] [(8, .ob b0 0), (9, i64 a1)] [2, 3, 4] (by kernel_rfl) (by kernel_rfl) ?_
  obtain ⟨⟨v1, v2⟩, ht1, h⟩ := bs h
  simp only at h
  refine AOps_callR _ [.ob b0 0, i64 a1] (tl_get rfl) rfl rfl rfl rfl Try.func39 (by decide) rfl ((.cons (D.le.refl _) (.cons (D.le.refl _) (.nil)))) (cursor_Cursor_Take_s0.ok a0 a1 _ _ b0 ((hh.have_ [0] (by decide) (by kernel_rfl)).own) _ _ ht1) ?_
  rintro _ S_ ⟨t1, rfl, h2_⟩
  replace hh := hh.call [0] [] (by decide) (by kernel_rfl) h2_ rfl
  refine fg [5, 10] ?_
  refine seg 1 [5, 10, 11] [(11, i64 ((v1.map eB).length : Int))] [4] (by kernel_rfl) (by kernel_rfl) ?_
  refine tod 11 (i64 ((v1.map eB).length : Int)) (i64 (v1.length : Int)) (by kernel_rfl) (by rw [List.length_map]) ?_
  refine seg 1 [5, 10, 11, 12] [(12, i64 0)] [] (by kernel_rfl) (by kernel_rfl) ?_
  refine zn ?_
  refine AT_block ?_
  refine AT_loopM 0x1c20 (fun k_ sl_ S_ => k_ ≤ k ∧ ∃ (x1 : Int), ∃ (x2 : Int), ∃ (tk1 : Nat), LeL sl_ (mkS 26 [(5, u32 x1), (10, .sl 1 (v1.map eB) (some tk1)), (11, i64 (v1.length : Int)), (12, i64 x2)]) ∧ cursor_read_uint32_s0.l0 k_ v1 v2 x1 x2 = some (r0, c0_) ∧ Own S B S_ [.o b0 (.cells 77 [.sl 1 (v2.left.map eB) none, bo v2.bad]), .t tk1 (v1).length 1]) k ⟨Nat.le_refl _, 0, 0, t1, (le_rf (by kernel_rfl)), h, hh⟩ ?_
  clear hh h
  rintro k' sl_ S_ ⟨hk_, x1, x2, tk1, hl_, h, hh⟩
  refine AT_weaken hl_ ?_
  obtain _ | k1 := k'
  · cases h
  rw [cursor_read_uint32_s0.l0] at h
  refine zsr ?_
  refine seg 1 [5, 10, 11, 12, 13] [(13, bo (decide (x2 < (v1.length : Int))))] [] (by kernel_rfl) (by kernel_rfl) ?_
  refine zn ?_
  refine AT_seq ?_
  refine AT_condR (decide (x2 < (v1.length : Int))) (by kernel_rfl) (fun hc1 => ?_) (fun hc1 => ?_)
  · rw [if_f hc1] at h
    refine AT_exit ?_
    refine athen_e ?_
    refine athen_e ?_
    refine ablock_h ?_
    refine athen_n ?_
    refine zsr ?_
    refine seg 2 [4] [(4, u32 x1)] [] (by kernel_rfl) (by kernel_rfl) ?_
    refine zn ?_
    refine AT_ret ?_
    have e0_ : x1 = r0 := congrArg (fun p_ => p_.1) (Option.some.inj h)
    have e1_ : v2 = c0_ := congrArg (fun p_ => p_.2) (Option.some.inj h)
    subst e0_
    subst e1_
    exact ⟨[u32 x1], _, S_, (.of (by kernel_rfl)), D.le.refl _, Store.le.refl _, rfl, (hh.sub [0] (by decide) (by kernel_rfl))⟩
  rw [if_t hc1] at h
  refine zkn ?_
  refine AT_seq ?_
  refine AT_block ?_
  refine zsr ?_
  obtain ⟨hi2, h⟩ := is h
  refine segc 2 [5, 10, 11, 12, 14, 15] [(14, i64 x2), (15, .pt ((v1.map eB).getD (x2 : Int).toNat []))] (0 ≤ x2 ∧ x2 < ((v1.map eB).length : Int)) [2, 3, 4] (by kernel_rfl) (by kernel_rfl) (idx_ok hi2) ?_
  refine tod 15 (.pt ((v1.map eB).getD (x2 : Int).toNat [])) (.pt [u8 ((rd v1 x2 0).toNat : Int)]) (by kernel_rfl) (by rw [pt_rd eB v1 x2 0 hi2.1 hi2.2]) ?_
  refine seg 3 [5, 6, 7, 10, 11, 12] [(6, i64 x2), (7, u8 ((rd v1 x2 0).toNat : Int))] [] (by kernel_rfl) (by kernel_rfl) ?_
  refine znr ?_
  obtain ⟨hi3, h⟩ := is h
  refine segc 6 [10, 11, 12, 17, 22] [(17, u32 x1), (22, u32 (IntKind.wrap .u32 ((IntKind.wrap .u32 ((rd v1 x2 0).toNat : Int)) * 2 ^ min (IntKind.wrap .i64 (8 * x2) : Int).toNat 32)))] (0 ≤ (IntKind.wrap .i64 (8 * x2))) [6, 7] (by kernel_rfl) (by kernel_rfl) (hi3) ?_
  refine seg 1 [10, 11, 12, 23] [(23, u32 (ibits .or .u32 x1 (IntKind.wrap .u32 ((IntKind.wrap .u32 ((rd v1 x2 0).toNat : Int)) * 2 ^ min (IntKind.wrap .i64 (8 * x2) : Int).toNat 32))))] [7] (by kernel_rfl) (by kernel_rfl) ?_
  refine seg 1 [5, 10, 11, 12] [(5, u32 (ibits .or .u32 x1 (IntKind.wrap .u32 ((IntKind.wrap .u32 ((rd v1 x2 0).toNat : Int)) * 2 ^ min (IntKind.wrap .i64 (8 * x2) : Int).toNat 32))))] [] (by kernel_rfl) (by kernel_rfl) ?_
  refine AOps_end ?_
  refine ablock_n ?_
  refine athen_n ?_
  refine AT_region ?_
  refine seg 2 [5, 10, 11, 12] [(12, i64 (IntKind.wrap .i64 (x2 + 1)))] [] (by kernel_rfl) (by kernel_rfl) ?_
  refine zn ?_
  exact ⟨k1, (by omega), (by omega), ibits .or .u32 x1 (IntKind.wrap .u32 ((IntKind.wrap .u32 ((rd v1 x2 0).toNat : Int)) * 2 ^ min (IntKind.wrap .i64 (8 * x2) : Int).toNat 32)), IntKind.wrap .i64 (x2 + 1), tk1, (le_rf (by kernel_rfl)), h, hh⟩
def cursor_Cursor_Byte_s0.f (k : Nat) (a0 : Cursor) : Option (UInt8 × Cursor) := (cursor_read_uint32_s0.f k a0 1).bind fun q_v1 => (some ((b8 (IntKind.wrap .u8 q_v1.1)), q_v1.2))
theorem cursor_Cursor_Byte_s0.mono (k : Nat) (a0 : Cursor) : LeO (cursor_Cursor_Byte_s0.f k a0) (cursor_Cursor_Byte_s0.f (k + 1) a0) := by
  unfold cursor_Cursor_Byte_s0.f
  repeat' first
    | exact LeO.refl _
    | exact LeO.none _
    | exact cursor_read_uint32_s0.mono _ _ _
    | refine LeO.ite ?_ ?_
    | refine LeO.bind ?_ (fun _ => ?_)
theorem cursor_Cursor_Byte_s0.ok (k : Nat) (a0 : Cursor) (S : Store) (B : List (Bool × Nat)) (b0 : Nat) (hh : Own S B S [.o b0 (.cells 77 [.sl 1 (a0.left.map eB) none, bo a0.bad])]) (r0 : UInt8) (c0_ : Cursor) (h : cursor_Cursor_Byte_s0.f k a0 = some (r0, c0_)) : ACalls Try.prog 37 [.ob b0 0] S (fun r_ S_ => r_ = u8 (r0.toNat : Int) ∧ Own S B S_ [.o b0 (.cells 77 [.sl 1 (c0_.left.map eB) none, bo c0_.bad])]) := by
  unfold cursor_Cursor_Byte_s0.f at h
  refine acalls_of Try.func37 rfl ?_
  refine AT_forget 0x1 (mkS 6 [(0, .ob b0 0)]) (by kernel_rfl) ?_
  refine zsr ?_
  refine seg 1 [0] [] [] (by kernel_rfl) (by kernel_rfl) ?_
  refine znsr ?_
  refine seg 1 [3] [(3, .ob b0 0)] [1, 2, 3] (by kernel_rfl) (by kernel_rfl) ?_
  obtain ⟨⟨v1, v2⟩, ht1, h⟩ := bs h
  simp only at h
  refine AOps_callR _ [.ob b0 0, i64 1] (tl_get rfl) rfl rfl rfl rfl Try.func47 (by decide) rfl ((.cons (D.le.refl _) (.cons (D.le.refl _) (.nil)))) (cursor_read_uint32_s0.ok _ a0 1 _ _ b0 ((hh.have_ [0] (by decide) (by kernel_rfl)).own) _ _ ht1) ?_
  rintro _ S_ ⟨rfl, h2_⟩
  replace hh := hh.call [0] [] (by decide) (by kernel_rfl) h2_ rfl
  refine fg [4] ?_
  refine seg 1 [5] [(5, u8 (IntKind.wrap .u8 v1))] [3] (by kernel_rfl) (by kernel_rfl) ?_
  refine tod 5 (u8 (IntKind.wrap .u8 v1)) (u8 ((b8 (IntKind.wrap .u8 v1)).toNat : Int)) (by kernel_rfl) (by rw [show ((b8 (IntKind.wrap .u8 v1)).toNat : Int) = IntKind.wrap .u8 v1 from b8_wrap _]) ?_
  refine seg 1 [2] [(2, u8 ((b8 (IntKind.wrap .u8 v1)).toNat : Int))] [] (by kernel_rfl) (by kernel_rfl) ?_
  refine zn ?_
  refine AT_ret ?_
  have e0_ : (b8 (IntKind.wrap .u8 v1)) = r0 := congrArg (fun p_ => p_.1) (Option.some.inj h)
  have e1_ : v2 = c0_ := congrArg (fun p_ => p_.2) (Option.some.inj h)
  subst e0_
  subst e1_
  exact ⟨[u8 ((b8 (IntKind.wrap .u8 v1)).toNat : Int)], _, S_, (.of (by kernel_rfl)), D.le.refl _, Store.le.refl _, rfl, hh⟩
end Go.Proofs.Ytfaojkajlpojlaa.Abs
