/- What functions of the program compute, each with the proof that it does (printed by wip/gen/all2.py). -/
import Derived.Test.YtfaojkajlpojlaaV3
import Derived.KernelRfl
namespace Go.Proofs.Ytfaojkajlpojlaa.Abs
open Go
set_option maxRecDepth 100000
def bitpack_Bytes.f (a0 : Int) (a1 : Int) : Option (Int) := if (decide (a0 < 0)) = true then (some (-1)) else (if (decide (a0 > 64)) = true then (some (-1)) else (if (decide (a1 < 0)) = true then (some (-1)) else (if (decide (a1 > 65536)) = true then (some (-1)) else (some (IntKind.wrap .i64 (Int.tdiv (IntKind.wrap .i64 ((IntKind.wrap .i64 ((IntKind.wrap .i64 (a0 * a1)) + 8)) - 1)) 8))))))
theorem bitpack_Bytes.ok (a0 : Int) (a1 : Int) (S : Store) (r : Int) (h : bitpack_Bytes.f a0 a1 = some r) : ACalls Try.prog 59 [i64 a0, i64 a1] S (fun r_ S_ => r_ = i64 r ∧ Own S [] S_ []) := by
  unfold bitpack_Bytes.f at h
  refine acalls_of Try.func59 rfl ?_
  have hh := Own.nil (S := S)
  refine AT_forget 0x3 (mkS 25 [(0, i64 a0), (1, i64 a1)]) (by kernel_rfl) ?_
  refine zsr ?_
  refine seg 1 [0, 1] [] [] (by kernel_rfl) (by kernel_rfl) ?_
  refine zn ?_
  refine AT_seq ?_
  refine zsr ?_
  refine seg 3 [0, 1, 7] [(7, bo (decide (a0 < 0)))] [3, 4, 5, 6, 7, 8, 9, 10, 11, 12, 13] (by kernel_rfl) (by kernel_rfl) ?_
  refine cased 7 (decide (a0 < 0)) (by kernel_rfl) (fun hc5 => ?_) (fun hc5 => ?_)
  · rw [if_t hc5] at h
    refine seg 11 [0, 1, 18] [(18, bo true)] [] (by kernel_rfl) (by kernel_rfl) ?_
    refine zn ?_
    refine AT_cond_t (by kernel_rfl) ?_
    refine zsr ?_
    refine seg 1 [4] [(4, i64 (-1))] [] (by kernel_rfl) (by kernel_rfl) ?_
    refine zn ?_
    refine AT_ret ?_
    refine athen_r ?_
    have e_ := Option.some.inj h
    subst e_
    exact ⟨[i64 (-1)], _, S, (.of (by kernel_rfl)), D.le.refl _, Store.le.refl _, rfl, hh⟩
  rw [if_f hc5] at h
  refine seg 4 [0, 1, 11] [(11, bo (decide (a0 > 64)))] [7, 8, 9, 10, 11, 12, 13] (by kernel_rfl) (by kernel_rfl) ?_
  refine cased 11 (decide (a0 > 64)) (by kernel_rfl) (fun hc6 => ?_) (fun hc6 => ?_)
  · rw [if_t hc6] at h
    refine seg 7 [0, 1, 18] [(18, bo true)] [] (by kernel_rfl) (by kernel_rfl) ?_
    refine zn ?_
    refine AT_cond_t (by kernel_rfl) ?_
    refine zsr ?_
    refine seg 1 [4] [(4, i64 (-1))] [] (by kernel_rfl) (by kernel_rfl) ?_
    refine zn ?_
    refine AT_ret ?_
    refine athen_r ?_
    have e_ := Option.some.inj h
    subst e_
    exact ⟨[i64 (-1)], _, S, (.of (by kernel_rfl)), D.le.refl _, Store.le.refl _, rfl, hh⟩
  rw [if_f hc6] at h
  refine seg 4 [0, 1, 15] [(15, bo (decide (a1 < 0)))] [11, 12, 13] (by kernel_rfl) (by kernel_rfl) ?_
  refine cased 15 (decide (a1 < 0)) (by kernel_rfl) (fun hc7 => ?_) (fun hc7 => ?_)
  · rw [if_t hc7] at h
    refine seg 3 [0, 1, 18] [(18, bo true)] [] (by kernel_rfl) (by kernel_rfl) ?_
    refine zn ?_
    refine AT_cond_t (by kernel_rfl) ?_
    refine zsr ?_
    refine seg 1 [4] [(4, i64 (-1))] [] (by kernel_rfl) (by kernel_rfl) ?_
    refine zn ?_
    refine AT_ret ?_
    refine athen_r ?_
    have e_ := Option.some.inj h
    subst e_
    exact ⟨[i64 (-1)], _, S, (.of (by kernel_rfl)), D.le.refl _, Store.le.refl _, rfl, hh⟩
  rw [if_f hc7] at h
  refine seg 3 [0, 1, 18] [(18, bo (decide (a1 > 65536)))] [] (by kernel_rfl) (by kernel_rfl) ?_
  refine zn ?_
  refine AT_condS (decide (a1 > 65536)) (by kernel_rfl) (fun hc8 => ?_) (fun hc8 => ?_)
  · rw [if_t hc8] at h
    refine zsr ?_
    refine seg 1 [4] [(4, i64 (-1))] [] (by kernel_rfl) (by kernel_rfl) ?_
    refine zn ?_
    refine AT_ret ?_
    refine athen_r ?_
    have e_ := Option.some.inj h
    subst e_
    exact ⟨[i64 (-1)], _, S, (.of (by kernel_rfl)), D.le.refl _, Store.le.refl _, rfl, hh⟩
  rw [if_f hc8] at h
  refine zkn ?_
  refine zsr ?_
  refine seg 4 [22] [(22, i64 (IntKind.wrap .i64 ((IntKind.wrap .i64 (a0 * a1)) + 8)))] [4, 5, 6] (by kernel_rfl) (by kernel_rfl) ?_
  refine seg 1 [23] [(23, i64 (IntKind.wrap .i64 ((IntKind.wrap .i64 ((IntKind.wrap .i64 (a0 * a1)) + 8)) - 1)))] [5, 6] (by kernel_rfl) (by kernel_rfl) ?_
  refine segc 1 [24] [(24, i64 (IntKind.wrap .i64 (Int.tdiv (IntKind.wrap .i64 ((IntKind.wrap .i64 ((IntKind.wrap .i64 (a0 * a1)) + 8)) - 1)) 8)))] ((8 : Int) ≠ 0) [6] (by kernel_rfl) (by kernel_rfl) ((by show (8 : Int) ≠ 0; decide)) ?_
  refine AOps_seg 1 0x10 (mkS 25 [(4, i64 (IntKind.wrap .i64 (Int.tdiv (IntKind.wrap .i64 ((IntKind.wrap .i64 ((IntKind.wrap .i64 (a0 * a1)) + 8)) - 1)) 8)))]) none [] (by kernel_rfl) (by kernel_rfl) trivial ?_
  refine zn ?_
  refine AT_ret ?_
  have e_ := Option.some.inj h
  subst e_
  exact ⟨[i64 (IntKind.wrap .i64 (Int.tdiv (IntKind.wrap .i64 ((IntKind.wrap .i64 ((IntKind.wrap .i64 (a0 * a1)) + 8)) - 1)) 8))], _, S, (.of (by kernel_rfl)), D.le.refl _, Store.le.refl _, rfl, hh⟩
def bitpack_Width.l0 : Nat → (List Int) → Int → Int → Option (Int)
  | 0, _, _, _ => none
  | k + 1, a0, x1, x2 => if (decide (x2 < (a0.length : Int))) = true then (if 0 ≤ x2 ∧ x2 < (a0.length : Int) then (bitpack_Width.l0 k a0 (ibits .or .u64 x1 (rd a0 x2 0)) (IntKind.wrap .i64 (x2 + 1))) else none) else ((math_bits_Len64.f k x1).bind fun v1 => (some v1))
def bitpack_Width.f (k : Nat) (a0 : (List Int)) : Option (Int) := bitpack_Width.l0 k a0 0 0
theorem bitpack_Width.mono_l : ∀ k, (∀ y0 y1 y2, LeO (bitpack_Width.l0 k y0 y1 y2) (bitpack_Width.l0 (k + 1) y0 y1 y2))
  | 0 => fun _ _ _ r h => (by simp only [bitpack_Width.l0] at h; cases h)
  | k + 1 => by
    have ih := bitpack_Width.mono_l k
    · intro y0 y1 y2
      rw [bitpack_Width.l0, bitpack_Width.l0]
      repeat' first
        | exact LeO.refl _
        | exact LeO.none _
        | exact ih _ _ _
        | exact math_bits_Len64.mono _ _
        | refine LeO.ite ?_ ?_
        | refine LeO.bind ?_ (fun _ => ?_)
theorem bitpack_Width.mono (k : Nat) (a0 : (List Int)) : LeO (bitpack_Width.f k a0) (bitpack_Width.f (k + 1) a0) := by
  unfold bitpack_Width.f
  repeat' first
    | exact LeO.refl _
    | exact LeO.none _
    | exact (bitpack_Width.mono_l k) _ _ _
    | exact math_bits_Len64.mono _ _
    | refine LeO.ite ?_ ?_
    | refine LeO.bind ?_ (fun _ => ?_)
theorem bitpack_Width.ok (k : Nat) (a0 : (List Int)) (S : Store) (r : Int) (h : bitpack_Width.f k a0 = some r) : ACalls Try.prog 60 [.sl 1 (a0.map eU) none] S (fun r_ S_ => r_ = i64 r ∧ Own S [] S_ []) := by
  unfold bitpack_Width.f at h
  refine acalls_of Try.func60 rfl ?_
  have hh := Own.nil (S := S)
  refine AT_forget 0x1 (mkS 18 [(0, .sl 1 (a0.map eU) none)]) (by kernel_rfl) ?_
  refine zsr ?_
  refine seg 1 [0] [] [] (by kernel_rfl) (by kernel_rfl) ?_
  refine znsr ?_
  refine seg 1 [0, 3] [(3, u64 0)] [] (by kernel_rfl) (by kernel_rfl) ?_
  refine zn ?_
  refine AT_seq ?_
  refine zsr ?_
  refine seg 2 [3, 6, 7] [(6, .sl 1 (a0.map eU) none), (7, i64 ((a0.map eU).length : Int))] [2] (by kernel_rfl) (by kernel_rfl) ?_
  refine tod 7 (i64 ((a0.map eU).length : Int)) (i64 (a0.length : Int)) (by kernel_rfl) (by rw [List.length_map]) ?_
  refine seg 1 [3, 6, 7, 8] [(8, i64 0)] [] (by kernel_rfl) (by kernel_rfl) ?_
  refine zn ?_
  refine AT_block ?_
  refine AT_loopM 0x1c8 (fun k_ sl_ S_ => k_ ≤ k ∧ ∃ (x1 : Int), ∃ (x2 : Int), LeL sl_ (mkS 18 [(3, u64 x1), (6, .sl 1 (a0.map eU) none), (7, i64 (a0.length : Int)), (8, i64 x2)]) ∧ bitpack_Width.l0 k_ a0 x1 x2 = some r ∧ Own S [] S_ []) k ⟨Nat.le_refl _, 0, 0, (le_rf (by kernel_rfl)), h, hh⟩ ?_
  clear hh h
  rintro k' sl_ S_ ⟨hk_, x1, x2, hl_, h, hh⟩
  refine AT_weaken hl_ ?_
  obtain _ | k1 := k'
  · cases h
  rw [bitpack_Width.l0] at h
  refine zsr ?_
  refine seg 1 [3, 6, 7, 8, 9] [(9, bo (decide (x2 < (a0.length : Int))))] [] (by kernel_rfl) (by kernel_rfl) ?_
  refine zn ?_
  refine AT_seq ?_
  refine AT_condR (decide (x2 < (a0.length : Int))) (by kernel_rfl) (fun hc1 => ?_) (fun hc1 => ?_)
  · rw [if_f hc1] at h
    refine AT_exit ?_
    refine athen_e ?_
    refine athen_e ?_
    refine ablock_h ?_
    refine athen_n ?_
    refine zsr ?_
    refine seg 1 [16] [(16, u64 x1)] [1, 2] (by kernel_rfl) (by kernel_rfl) ?_
    obtain ⟨v1, ht1, h⟩ := bs h
    refine AOps_callR _ [u64 x1] (tl_get rfl) rfl rfl rfl rfl Try.func41 (by decide) rfl ((.cons (D.le.refl _) (.nil))) (math_bits_Len64.ok _ x1 _  _ ht1) ?_
    rintro _ S_ ⟨rfl, h2_⟩
    replace hh := hh.call0 h2_
    refine fg [17] ?_
    refine seg 1 [2] [(2, i64 v1)] [] (by kernel_rfl) (by kernel_rfl) ?_
    refine zn ?_
    refine AT_ret ?_
    have e_ := Option.some.inj h
    subst e_
    exact ⟨[i64 v1], _, S_, (.of (by kernel_rfl)), D.le.refl _, Store.le.refl _, rfl, hh⟩
  rw [if_t hc1] at h
  refine zkn ?_
  refine AT_seq ?_
  refine AT_block ?_
  refine zsr ?_
  obtain ⟨hi2, h⟩ := is h
  refine segc 1 [3, 6, 7, 8, 10] [(10, .pt ((a0.map eU).getD (x2 : Int).toNat []))] (0 ≤ x2 ∧ x2 < ((a0.map eU).length : Int)) [1, 2] (by kernel_rfl) (by kernel_rfl) (idx_ok hi2) ?_
  refine tod 10 (.pt ((a0.map eU).getD (x2 : Int).toNat [])) (.pt [u64 (rd a0 x2 0)]) (by kernel_rfl) (by rw [pt_rd eU a0 x2 0 hi2.1 hi2.2]) ?_
  refine seg 2 [3, 5, 6, 7, 8] [(5, u64 (rd a0 x2 0))] [] (by kernel_rfl) (by kernel_rfl) ?_
  refine znr ?_
  refine seg 4 [3, 6, 7, 8] [(3, u64 (ibits .or .u64 x1 (rd a0 x2 0)))] [] (by kernel_rfl) (by kernel_rfl) ?_
  refine AOps_end ?_
  refine ablock_n ?_
  refine athen_n ?_
  refine AT_region ?_
  refine seg 2 [3, 6, 7, 8] [(8, i64 (IntKind.wrap .i64 (x2 + 1)))] [] (by kernel_rfl) (by kernel_rfl) ?_
  refine zn ?_
  exact ⟨k1, (by omega), (by omega), ibits .or .u64 x1 (rd a0 x2 0), IntKind.wrap .i64 (x2 + 1), (le_rf (by kernel_rfl)), h, hh⟩
mutual
def bitpack_Pack.l1 : Nat → (List Int) → Int → Int → Int → Int → Int → Int → (List UInt8) → Option ((List UInt8) × Bool)
  | 0, _, _, _, _, _, _, _, _ => none
  | k + 1, a0, a1, v1, x11, x16, x17, x18, x19 => if (decide (x18 > 0)) = true then (if 0 ≤ (IntKind.wrap .i64 (Int.tdiv x16 8)) ∧ (IntKind.wrap .i64 (Int.tdiv x16 8)) < (((v1 : Int).toNat : Nat) : Int) then (if 0 ≤ (Int.tmod x16 8) then (if 0 ≤ (IntKind.wrap .i64 ((IntKind.wrap .i64 (8 - (if IntKind.wrap .i64 (8 - (Int.tmod x16 8)) < x18 then IntKind.wrap .i64 (8 - (Int.tmod x16 8)) else x18))) - (Int.tmod x16 8))) then (if 0 ≤ (IntKind.wrap .i64 (Int.tdiv x16 8)) ∧ (IntKind.wrap .i64 (Int.tdiv x16 8)) < (((v1 : Int).toNat : Nat) : Int) then (if 0 ≤ (if IntKind.wrap .i64 (8 - (Int.tmod x16 8)) < x18 then IntKind.wrap .i64 (8 - (Int.tmod x16 8)) else x18) then (bitpack_Pack.l1 k a0 a1 v1 x11 (IntKind.wrap .i64 (x16 + (if IntKind.wrap .i64 (8 - (Int.tmod x16 8)) < x18 then IntKind.wrap .i64 (8 - (Int.tmod x16 8)) else x18))) (Int.fdiv x17 (2 ^ min (if IntKind.wrap .i64 (8 - (Int.tmod x16 8)) < x18 then IntKind.wrap .i64 (8 - (Int.tmod x16 8)) else x18 : Int).toNat 64)) (IntKind.wrap .i64 (x18 - (if IntKind.wrap .i64 (8 - (Int.tmod x16 8)) < x18 then IntKind.wrap .i64 (8 - (Int.tmod x16 8)) else x18))) (setI x19 (IntKind.wrap .i64 (Int.tdiv x16 8)) (b8 (ibits .or .u8 ((rd x19 (IntKind.wrap .i64 (Int.tdiv x16 8)) 0).toNat : Int) ((b8 (ibits .and .u8 ((b8 (IntKind.wrap .u8 (IntKind.wrap .u64 (x17 * 2 ^ min (Int.tmod x16 8 : Int).toNat 64)))).toNat : Int) ((b8 (Int.fdiv 255 (2 ^ min (IntKind.wrap .i64 ((IntKind.wrap .i64 (8 - (if IntKind.wrap .i64 (8 - (Int.tmod x16 8)) < x18 then IntKind.wrap .i64 (8 - (Int.tmod x16 8)) else x18))) - (Int.tmod x16 8)) : Int).toNat 8))).toNat : Int))).toNat : Int))))) else none) else none) else none) else none) else none) else (bitpack_Pack.l0 k a0 a1 v1 x16 (IntKind.wrap .i64 (x11 + 1)) x19)
def bitpack_Pack.l0 : Nat → (List Int) → Int → Int → Int → Int → (List UInt8) → Option ((List UInt8) × Bool)
  | 0, _, _, _, _, _, _ => none
  | k + 1, a0, a1, v1, x10, x11, x12 => if (decide (x11 < (a0.length : Int))) = true then (if 0 ≤ x11 ∧ x11 < (a0.length : Int) then (bitpack_Pack.l1 k a0 a1 v1 x11 x10 (rd a0 x11 0) a1 x12) else none) else (some (x12, true))
end
def bitpack_Pack.f (k : Nat) (a0 : (List Int)) (a1 : Int) : Option ((List UInt8) × Bool) := (bitpack_Bytes.f a1 (a0.length : Int)).bind fun v1 => (if (decide (v1 < 0)) = true then (some ([], false)) else ((bitpack_Width.f k a0).bind fun v3 => (if (decide (v3 > a1)) = true then (some ([], false)) else (if 0 ≤ v1 ∧ (1 : Int) * v1 ≤ 281474976710656 ∧ v1 ≤ 9223372036854775807 then (bitpack_Pack.l0 k a0 a1 v1 0 0 (List.replicate ((v1 : Int).toNat) (0 : UInt8))) else none))))
theorem bitpack_Pack.mono_l : ∀ k, (∀ y0 y1 y2 y3 y4 y5 y6 y7, LeO (bitpack_Pack.l1 k y0 y1 y2 y3 y4 y5 y6 y7) (bitpack_Pack.l1 (k + 1) y0 y1 y2 y3 y4 y5 y6 y7)) ∧ (∀ y0 y1 y2 y3 y4 y5, LeO (bitpack_Pack.l0 k y0 y1 y2 y3 y4 y5) (bitpack_Pack.l0 (k + 1) y0 y1 y2 y3 y4 y5))
  | 0 => ⟨fun _ _ _ _ _ _ _ _ r h => (by simp only [bitpack_Pack.l1] at h; cases h), fun _ _ _ _ _ _ r h => (by simp only [bitpack_Pack.l0] at h; cases h)⟩
  | k + 1 => by
    have ih := bitpack_Pack.mono_l k
    refine ⟨?_, ?_⟩
    · intro y0 y1 y2 y3 y4 y5 y6 y7
      rw [bitpack_Pack.l1, bitpack_Pack.l1]
      repeat' first
        | exact LeO.refl _
        | exact LeO.none _
        | exact ih.1 _ _ _ _ _ _ _ _
        | exact ih.2 _ _ _ _ _ _
        | exact bitpack_Width.mono _ _
        | refine LeO.ite ?_ ?_
        | refine LeO.bind ?_ (fun _ => ?_)
    · intro y0 y1 y2 y3 y4 y5
      rw [bitpack_Pack.l0, bitpack_Pack.l0]
      repeat' first
        | exact LeO.refl _
        | exact LeO.none _
        | exact ih.1 _ _ _ _ _ _ _ _
        | exact ih.2 _ _ _ _ _ _
        | exact bitpack_Width.mono _ _
        | refine LeO.ite ?_ ?_
        | refine LeO.bind ?_ (fun _ => ?_)
theorem bitpack_Pack.mono (k : Nat) (a0 : (List Int)) (a1 : Int) : LeO (bitpack_Pack.f k a0 a1) (bitpack_Pack.f (k + 1) a0 a1) := by
  unfold bitpack_Pack.f
  repeat' first
    | exact LeO.refl _
    | exact LeO.none _
    | exact (bitpack_Pack.mono_l k).1 _ _ _ _ _ _ _ _
    | exact (bitpack_Pack.mono_l k).2 _ _ _ _ _ _
    | exact bitpack_Width.mono _ _
    | refine LeO.ite ?_ ?_
    | refine LeO.bind ?_ (fun _ => ?_)
theorem bitpack_Pack.ok (k : Nat) (a0 : (List Int)) (a1 : Int) (S : Store) (r0 : (List UInt8)) (r1 : Bool) (h : bitpack_Pack.f k a0 a1 = some (r0, r1)) : ACalls Try.prog 45 [.sl 1 (a0.map eU) none, i64 a1] S (fun r_ S_ => r_ = .tup [.sl 1 (r0.map eB) none, bo r1] ∧ Own S [] S_ []) := by
  unfold bitpack_Pack.f at h
  refine acalls_of Try.func45 rfl ?_
  have hh := Own.nil (S := S)
  refine AT_forget 0x3 (mkS 71 [(0, .sl 1 (a0.map eU) none), (1, i64 a1)]) (by kernel_rfl) ?_
  refine zsr ?_
  refine seg 2 [0, 1] [] [] (by kernel_rfl) (by kernel_rfl) ?_
  refine znsr ?_
  refine seg 3 [0, 1, 13, 15] [(13, i64 a1), (15, i64 ((a0.map eU).length : Int))] [3, 4] (by kernel_rfl) (by kernel_rfl) ?_
  refine tod 15 (i64 ((a0.map eU).length : Int)) (i64 (a0.length : Int)) (by kernel_rfl) (by rw [List.length_map]) ?_
  obtain ⟨v1, ht1, h⟩ := bs h
  refine AOps_callR _ [i64 a1, i64 (a0.length : Int)] (tl_get rfl) rfl rfl rfl rfl Try.func59 (by decide) rfl ((.cons (D.le.refl _) (.cons (D.le.refl _) (.nil)))) (bitpack_Bytes.ok a1 (a0.length : Int) _  _ ht1) ?_
  rintro _ S_ ⟨rfl, h2_⟩
  replace hh := hh.call0 h2_
  refine fg [0, 1, 16] ?_
  refine seg 1 [0, 1, 6] [(6, i64 v1)] [] (by kernel_rfl) (by kernel_rfl) ?_
  refine zn ?_
  refine AT_seq ?_
  refine zsr ?_
  refine seg 3 [0, 1, 6, 19] [(19, bo (decide (v1 < 0)))] [3, 4, 5, 6, 7] (by kernel_rfl) (by kernel_rfl) ?_
  refine cased 19 (decide (v1 < 0)) (by kernel_rfl) (fun hc3 => ?_) (fun hc3 => ?_)
  · rw [if_t hc3] at h
    refine seg 5 [0, 1, 6, 24] [(24, bo true)] [] (by kernel_rfl) (by kernel_rfl) ?_
    refine zn ?_
    refine AT_cond_t (by kernel_rfl) ?_
    refine zsr ?_
    refine seg 2 [4, 5] [(4, nilS), (5, bo false)] [] (by kernel_rfl) (by kernel_rfl) ?_
    refine zn ?_
    refine AT_ret ?_
    refine athen_r ?_
    have e0_ : [] = r0 := congrArg (fun p_ => p_.1) (Option.some.inj h)
    have e1_ : false = r1 := congrArg (fun p_ => p_.2) (Option.some.inj h)
    subst e0_
    subst e1_
    exact ⟨[nilS, bo false], _, S_, (.of (by kernel_rfl)), (tup_le (.cons (nil_le) (.cons (D.le.refl _) (.nil)))), Store.le.refl _, rfl, hh⟩
  rw [if_f hc3] at h
  refine seg 1 [0, 1, 6, 19, 20] [(20, .sl 1 (a0.map eU) none)] [4, 5, 6, 7] (by kernel_rfl) (by kernel_rfl) ?_
  obtain ⟨v3, ht3, h⟩ := bs h
  refine AOps_callR _ [.sl 1 (a0.map eU) none] (tl_get rfl) rfl rfl rfl rfl Try.func60 (by decide) rfl ((.cons (D.le.refl _) (.nil))) (bitpack_Width.ok _ a0 _  _ ht3) ?_
  rintro _ S_ ⟨rfl, h2_⟩
  replace hh := hh.call0 h2_
  refine fg [0, 1, 6, 19, 21] ?_
  refine seg 3 [0, 1, 6, 24] [(24, bo (decide (v3 > a1)))] [] (by kernel_rfl) (by kernel_rfl) ?_
  refine zn ?_
  refine AT_condS (decide (v3 > a1)) (by kernel_rfl) (fun hc4 => ?_) (fun hc4 => ?_)
  · rw [if_t hc4] at h
    refine zsr ?_
    refine AOps_seg 2 0x30 (mkS 71 [(4, nilS), (5, bo false)]) none [] (by kernel_rfl) (by kernel_rfl) trivial ?_
    refine zn ?_
    refine AT_ret ?_
    refine athen_r ?_
    have e0_ : [] = r0 := congrArg (fun p_ => p_.1) (Option.some.inj h)
    have e1_ : false = r1 := congrArg (fun p_ => p_.2) (Option.some.inj h)
    subst e0_
    subst e1_
    exact ⟨[nilS, bo false], _, S_, (.of (by kernel_rfl)), (tup_le (.cons (nil_le) (.cons (D.le.refl _) (.nil)))), Store.le.refl _, rfl, hh⟩
  rw [if_f hc4] at h
  refine zkn ?_
  refine zsr ?_
  refine AOps_seg 1 0x2000003 (mkS 71 [(0, .sl 1 (a0.map eU) none), (1, i64 a1), (25, i64 v1)]) none [1, 2] (by kernel_rfl) (by kernel_rfl) trivial ?_
  obtain ⟨hi2, h⟩ := is h
  refine AOps_makeRowI (kl := .i64) (kc := .i64) (.int .u8 0) 1 1 eB 0 v1 (tl_get rfl) rfl rfl rfl (by kernel_rfl) rfl (by kernel_rfl) rfl rfl rfl hi2 (fun S_ m1 hf_ u_ => ?_)
  replace hh := hh.obN hf_ u_
  have ln1 : (List.replicate ((v1 : Int).toNat) (0 : UInt8)).length = (v1 : Int).toNat := rep_len _ _
  refine fg [0, 1, 26] ?_
  refine seg 1 [0, 1, 7] [(7, .vw m1 0 ((v1 : Int).toNat) ((v1 : Int).toNat))] [] (by kernel_rfl) (by kernel_rfl) ?_
  refine znsr ?_
  refine seg 1 [0, 1, 7, 8] [(8, i64 0)] [] (by kernel_rfl) (by kernel_rfl) ?_
  refine zn ?_
  refine AT_seq ?_
  refine zsr ?_
  refine seg 2 [1, 7, 8, 27, 28] [(27, .sl 1 (a0.map eU) none), (28, i64 ((a0.map eU).length : Int))] [2] (by kernel_rfl) (by kernel_rfl) ?_
  refine tod 28 (i64 ((a0.map eU).length : Int)) (i64 (a0.length : Int)) (by kernel_rfl) (by rw [List.length_map]) ?_
  refine seg 1 [1, 7, 8, 27, 28, 29] [(29, i64 0)] [] (by kernel_rfl) (by kernel_rfl) ?_
  refine zn ?_
  refine AT_block ?_
  refine AT_loopM 0x38000182 (fun k_ sl_ S_ => k_ ≤ k ∧ ∃ (x10 : Int), ∃ (x11 : Int), ∃ (x12 : (List UInt8)), LeL sl_ (mkS 71 [(1, i64 a1), (7, .vw m1 0 ((v1 : Int).toNat) ((v1 : Int).toNat)), (8, i64 x10), (27, .sl 1 (a0.map eU) none), (28, i64 (a0.length : Int)), (29, i64 x11)]) ∧ bitpack_Pack.l0 k_ a0 a1 v1 x10 x11 x12 = some (r0, r1) ∧ Own S [] S_ [.o m1 (.cells 5 (rowC eB x12))] ∧ List.length x12 = (v1 : Int).toNat) k ⟨Nat.le_refl _, 0, 0, List.replicate ((v1 : Int).toNat) (0 : UInt8), (le_rf (by kernel_rfl)), h, hh, ln1⟩ ?_
  clear hh h
  rintro k' sl_ S_ ⟨hk_, x10, x11, x12, hl_, h, hh, ln5⟩
  refine AT_weaken hl_ ?_
  obtain _ | k4 := k'
  · cases h
  rw [bitpack_Pack.l0] at h
  refine zsr ?_
  refine seg 1 [1, 7, 8, 27, 28, 29, 30] [(30, bo (decide (x11 < (a0.length : Int))))] [] (by kernel_rfl) (by kernel_rfl) ?_
  refine zn ?_
  refine AT_seq ?_
  refine AT_condR (decide (x11 < (a0.length : Int))) (by kernel_rfl) (fun hc8 => ?_) (fun hc8 => ?_)
  · rw [if_f hc8] at h
    refine AT_exit ?_
    refine athen_e ?_
    refine athen_e ?_
    refine ablock_h ?_
    refine athen_n ?_
    refine zsr ?_
    refine seg 3 [4, 5] [(4, .vw m1 0 ((v1 : Int).toNat) ((v1 : Int).toNat)), (5, bo true)] [] (by kernel_rfl) (by kernel_rfl) ?_
    refine zn ?_
    refine AT_forget 0x30 (mkS 71 [(4, .vw m1 0 ((v1 : Int).toNat) ((v1 : Int).toNat)), (5, bo true)]) (by kernel_rfl) ?_
    refine AT_rowOut (m := 71) (ps := [(4, .vw m1 0 ((v1 : Int).toNat) ((v1 : Int).toNat)), (5, bo true)]) (ps' := [(4, .sl 1 (x12.map eB) none), (5, bo true)]) (T := 5) (E := eB) (sz := 1) (r := x12) (hh.ob 0 (by kernel_rfl)) (fun _ => rfl) (.row ln5.symm (Nat.le_of_eq rfl) (.same _ .nil)) (fun S_ u_ => ?_)
    replace hh := hh.gone 0 (by kernel_rfl) u_ [] (by decide) rfl
    refine AT_ret ?_
    have e0_ : x12 = r0 := congrArg (fun p_ => p_.1) (Option.some.inj h)
    have e1_ : true = r1 := congrArg (fun p_ => p_.2) (Option.some.inj h)
    subst e0_
    subst e1_
    exact ⟨[.sl 1 (x12.map eB) none, bo true], _, S_, (.of (by kernel_rfl)), D.le.refl _, Store.le.refl _, rfl, hh⟩
  rw [if_t hc8] at h
  refine zkn ?_
  refine AT_seq ?_
  refine AT_block ?_
  refine zsr ?_
  obtain ⟨hi29, h⟩ := is h
  refine segc 1 [1, 7, 8, 27, 28, 29, 31] [(31, .pt ((a0.map eU).getD (x11 : Int).toNat []))] (0 ≤ x11 ∧ x11 < ((a0.map eU).length : Int)) [1, 2] (by kernel_rfl) (by kernel_rfl) (idx_ok hi29) ?_
  refine tod 31 (.pt ((a0.map eU).getD (x11 : Int).toNat [])) (.pt [u64 (rd a0 x11 0)]) (by kernel_rfl) (by rw [pt_rd eU a0 x11 0 hi29.1 hi29.2]) ?_
  refine seg 2 [1, 7, 8, 10, 27, 28, 29] [(10, u64 (rd a0 x11 0))] [] (by kernel_rfl) (by kernel_rfl) ?_
  refine znsr ?_
  refine seg 2 [1, 7, 8, 10, 11, 27, 28, 29] [(11, i64 a1)] [] (by kernel_rfl) (by kernel_rfl) ?_
  refine zn ?_
  refine AT_block ?_
  refine AT_loopM 0x38000d82 (fun k_ sl_ S_ => k_ ≤ k4 ∧ ∃ (x16 : Int), ∃ (x17 : Int), ∃ (x18 : Int), ∃ (x19 : (List UInt8)), LeL sl_ (mkS 71 [(1, i64 a1), (7, .vw m1 0 ((v1 : Int).toNat) ((v1 : Int).toNat)), (8, i64 x16), (10, u64 x17), (11, i64 x18), (27, .sl 1 (a0.map eU) none), (28, i64 (a0.length : Int)), (29, i64 x11)]) ∧ bitpack_Pack.l1 k_ a0 a1 v1 x11 x16 x17 x18 x19 = some (r0, r1) ∧ Own S [] S_ [.o m1 (.cells 5 (rowC eB x19))] ∧ List.length x19 = (v1 : Int).toNat) k4 ⟨Nat.le_refl _, x10, rd a0 x11 0, a1, x12, (le_rf (by kernel_rfl)), h, hh, ln5⟩ ?_
  clear hh h
  rintro k' sl_ S_ ⟨hk_, x16, x17, x18, x19, hl_, h, hh, ln7⟩
  refine AT_weaken hl_ ?_
  obtain _ | k6 := k'
  · cases h
  rw [bitpack_Pack.l1] at h
  refine AT_seq ?_
  refine zsr ?_
  refine seg 2 [1, 7, 8, 10, 11, 27, 28, 29, 35] [(35, bo (decide (x18 > 0)))] [] (by kernel_rfl) (by kernel_rfl) ?_
  refine zn ?_
  refine AT_condR (decide (x18 > 0)) (by kernel_rfl) (fun hc10 => ?_) (fun hc10 => ?_)
  · rw [if_f hc10] at h
    refine AT_exit ?_
    refine athen_e ?_
    refine athen_e ?_
    refine ablock_h ?_
    refine ablock_n ?_
    refine athen_n ?_
    refine AT_region ?_
    refine seg 2 [1, 7, 8, 27, 28, 29] [(29, i64 (IntKind.wrap .i64 (x11 + 1)))] [] (by kernel_rfl) (by kernel_rfl) ?_
    refine zn ?_
    exact ⟨k6, (by omega), (by omega), x16, IntKind.wrap .i64 (x11 + 1), x19, (le_rf (by kernel_rfl)), h, hh, ln7⟩
  rw [if_t hc10] at h
  refine zkn ?_
  refine AT_block ?_
  refine zsr ?_
  refine segc 3 [1, 7, 8, 10, 11, 27, 28, 29, 36, 38] [(36, i64 x18), (38, i64 (Int.tmod x16 8))] ((8 : Int) ≠ 0) [3, 4, 5] (by kernel_rfl) (by kernel_rfl) ((by show (8 : Int) ≠ 0; decide)) ?_
  refine seg 1 [1, 7, 8, 10, 11, 27, 28, 29, 36, 39] [(39, i64 (IntKind.wrap .i64 (8 - (Int.tmod x16 8))))] [4, 5] (by kernel_rfl) (by kernel_rfl) ?_
  refine seg 2 [1, 7, 8, 10, 11, 12, 27, 28, 29] [(12, i64 (if IntKind.wrap .i64 (8 - (Int.tmod x16 8)) < x18 then IntKind.wrap .i64 (8 - (Int.tmod x16 8)) else x18))] [] (by kernel_rfl) (by kernel_rfl) ?_
  refine zn ?_
  refine AT_seq ?_
  refine AT_draw [19] 20 (fun _ => True) (by kernel_rfl) ?_
  refine aseg 20 [] [1, 7, 8, 10, 11, 12, 27, 28, 29] [] #[false, false, false, false, false, false, false, false, false, false, false, false, false, false, false, false, false, false, false, false] (by kernel_rfl) (by kernel_rfl) ?_
  refine asegc 17 [0, 1, 2] [1, 7, 8, 10, 11, 12, 27, 28, 29, 41, 43] [(41, .vw m1 0 ((v1 : Int).toNat) ((v1 : Int).toNat)), (43, i64 (IntKind.wrap .i64 (Int.tdiv x16 8)))] ((8 : Int) ≠ 0) #[true, true, true, false, false, false, false, false, false, false, false, false, false, false, false, false, false, false, false, false] (by kernel_rfl) ((by show (8 : Int) ≠ 0; decide)) (by kernel_rfl) ?_
  obtain ⟨hi44, h⟩ := is h
  refine asegc 16 [3] [1, 7, 8, 10, 11, 12, 27, 28, 29, 41, 43, 44] [(44, .ob m1 (0 + (IntKind.wrap .i64 (Int.tdiv x16 8) : Int).toNat * 1))] (0 ≤ (IntKind.wrap .i64 (Int.tdiv x16 8)) ∧ (IntKind.wrap .i64 (Int.tdiv x16 8)) < (((v1 : Int).toNat : Nat) : Int)) #[true, true, true, true, false, false, false, false, false, false, false, false, false, false, false, false, false, false, false, false] (by kernel_rfl) (hi44) (by kernel_rfl) ?_
  refine AAny_rowLoad (i := 4) (E := eB) (sz := 1) (r := x19) (T := 5) (IntKind.wrap .i64 (Int.tdiv x16 8)) 0 0 (u8 ((rd x19 (IntKind.wrap .i64 (Int.tdiv x16 8)) 0).toNat : Int)) (tl_get rfl) (by kernel_rfl) rfl rfl rfl (hh.ob 0 (by kernel_rfl)) (fun _ => rfl) (by omega) (by have := ln7; omega) (.inr ⟨by kernel_rfl, by decide, by kernel_rfl⟩) ?_
  refine afg [1, 7, 8, 10, 11, 12, 27, 28, 29, 41, 43, 45] #[true, true, true, true, true, false, false, false, false, false, false, false, false, false, false, false, false, false, false, false] (by kernel_rfl) ?_
  refine AAny_seg 12 [5, 6, 7] 0xfff6a0038001d82 (mkS 71 [(1, i64 a1), (7, .vw m1 0 ((v1 : Int).toNat) ((v1 : Int).toNat)), (8, i64 x16), (10, u64 x17), (11, i64 x18), (12, i64 (if IntKind.wrap .i64 (8 - (Int.tmod x16 8)) < x18 then IntKind.wrap .i64 (8 - (Int.tmod x16 8)) else x18)), (27, .sl 1 (a0.map eU) none), (28, i64 (a0.length : Int)), (29, i64 x11), (41, .vw m1 0 ((v1 : Int).toNat) ((v1 : Int).toNat)), (43, i64 (IntKind.wrap .i64 (Int.tdiv x16 8))), (45, u8 ((rd x19 (IntKind.wrap .i64 (Int.tdiv x16 8)) 0).toNat : Int)), (46, u64 x17), (48, i64 (Int.tmod x16 8))]) (some ((8 : Int) ≠ 0)) #[true, true, true, true, true, true, true, true, false, false, false, false, false, false, false, false, false, false, false, false] (by kernel_rfl) ((by show (8 : Int) ≠ 0; decide)) (by kernel_rfl) ?_
  obtain ⟨hi46, h⟩ := is h
  refine asegc 11 [8] [1, 7, 8, 10, 11, 12, 27, 28, 29, 41, 43, 45, 49] [(49, u64 (IntKind.wrap .u64 (x17 * 2 ^ min (Int.tmod x16 8 : Int).toNat 64)))] (0 ≤ (Int.tmod x16 8)) #[true, true, true, true, true, true, true, true, true, false, false, false, false, false, false, false, false, false, false, false] (by kernel_rfl) (hi46) (by kernel_rfl) ?_
  refine aseg 10 [9] [1, 7, 8, 10, 11, 12, 27, 28, 29, 41, 43, 45, 50] [(50, u8 (IntKind.wrap .u8 (IntKind.wrap .u64 (x17 * 2 ^ min (Int.tmod x16 8 : Int).toNat 64))))] #[true, true, true, true, true, true, true, true, true, true, false, false, false, false, false, false, false, false, false, false] (by kernel_rfl) (by kernel_rfl) ?_
  refine atod 50 (u8 (IntKind.wrap .u8 (IntKind.wrap .u64 (x17 * 2 ^ min (Int.tmod x16 8 : Int).toNat 64)))) (u8 ((b8 (IntKind.wrap .u8 (IntKind.wrap .u64 (x17 * 2 ^ min (Int.tmod x16 8 : Int).toNat 64)))).toNat : Int)) (by kernel_rfl) (by rw [show ((b8 (IntKind.wrap .u8 (IntKind.wrap .u64 (x17 * 2 ^ min (Int.tmod x16 8 : Int).toNat 64)))).toNat : Int) = IntKind.wrap .u8 (IntKind.wrap .u64 (x17 * 2 ^ min (Int.tmod x16 8 : Int).toNat 64)) from b8_wrap _]) ?_
  refine aseg 9 [10] [1, 7, 8, 10, 11, 12, 27, 28, 29, 41, 43, 45, 50, 51] [(51, i64 (if IntKind.wrap .i64 (8 - (Int.tmod x16 8)) < x18 then IntKind.wrap .i64 (8 - (Int.tmod x16 8)) else x18))] #[true, true, true, true, true, true, true, true, true, true, true, false, false, false, false, false, false, false, false, false] (by kernel_rfl) (by kernel_rfl) ?_
  refine aseg 8 [11] [1, 7, 8, 10, 11, 12, 27, 28, 29, 41, 43, 45, 50, 52] [(52, i64 (IntKind.wrap .i64 (8 - (if IntKind.wrap .i64 (8 - (Int.tmod x16 8)) < x18 then IntKind.wrap .i64 (8 - (Int.tmod x16 8)) else x18))))] #[true, true, true, true, true, true, true, true, true, true, true, true, false, false, false, false, false, false, false, false] (by kernel_rfl) (by kernel_rfl) ?_
  refine asegc 6 [12, 13] [1, 7, 8, 10, 11, 12, 27, 28, 29, 41, 43, 45, 50, 52, 54] [(54, i64 (Int.tmod x16 8))] ((8 : Int) ≠ 0) #[true, true, true, true, true, true, true, true, true, true, true, true, true, true, false, false, false, false, false, false] (by kernel_rfl) ((by show (8 : Int) ≠ 0; decide)) (by kernel_rfl) ?_
  refine aseg 5 [14] [1, 7, 8, 10, 11, 12, 27, 28, 29, 41, 43, 45, 50, 55] [(55, i64 (IntKind.wrap .i64 ((IntKind.wrap .i64 (8 - (if IntKind.wrap .i64 (8 - (Int.tmod x16 8)) < x18 then IntKind.wrap .i64 (8 - (Int.tmod x16 8)) else x18))) - (Int.tmod x16 8))))] #[true, true, true, true, true, true, true, true, true, true, true, true, true, true, true, false, false, false, false, false] (by kernel_rfl) (by kernel_rfl) ?_
  obtain ⟨hi49, h⟩ := is h
  refine asegc 4 [15] [1, 7, 8, 10, 11, 12, 27, 28, 29, 41, 43, 45, 50, 56] [(56, u8 (Int.fdiv 255 (2 ^ min (IntKind.wrap .i64 ((IntKind.wrap .i64 (8 - (if IntKind.wrap .i64 (8 - (Int.tmod x16 8)) < x18 then IntKind.wrap .i64 (8 - (Int.tmod x16 8)) else x18))) - (Int.tmod x16 8)) : Int).toNat 8)))] (0 ≤ (IntKind.wrap .i64 ((IntKind.wrap .i64 (8 - (if IntKind.wrap .i64 (8 - (Int.tmod x16 8)) < x18 then IntKind.wrap .i64 (8 - (Int.tmod x16 8)) else x18))) - (Int.tmod x16 8)))) #[true, true, true, true, true, true, true, true, true, true, true, true, true, true, true, true, false, false, false, false] (by kernel_rfl) (hi49) (by kernel_rfl) ?_
  refine atod 56 (u8 (Int.fdiv 255 (2 ^ min (IntKind.wrap .i64 ((IntKind.wrap .i64 (8 - (if IntKind.wrap .i64 (8 - (Int.tmod x16 8)) < x18 then IntKind.wrap .i64 (8 - (Int.tmod x16 8)) else x18))) - (Int.tmod x16 8)) : Int).toNat 8))) (u8 ((b8 (Int.fdiv 255 (2 ^ min (IntKind.wrap .i64 ((IntKind.wrap .i64 (8 - (if IntKind.wrap .i64 (8 - (Int.tmod x16 8)) < x18 then IntKind.wrap .i64 (8 - (Int.tmod x16 8)) else x18))) - (Int.tmod x16 8)) : Int).toNat 8))).toNat : Int)) (by kernel_rfl) (by rw [b8_shr (n := 255) (min (IntKind.wrap .i64 ((IntKind.wrap .i64 (8 - (if IntKind.wrap .i64 (8 - (Int.tmod x16 8)) < x18 then IntKind.wrap .i64 (8 - (Int.tmod x16 8)) else x18))) - (Int.tmod x16 8)) : Int).toNat 8) (by omega) (by have := UInt8.toNat_lt; omega)]) ?_
  refine aseg 3 [16] [1, 7, 8, 10, 11, 12, 27, 28, 29, 41, 43, 45, 57] [(57, u8 (ibits .and .u8 ((b8 (IntKind.wrap .u8 (IntKind.wrap .u64 (x17 * 2 ^ min (Int.tmod x16 8 : Int).toNat 64)))).toNat : Int) ((b8 (Int.fdiv 255 (2 ^ min (IntKind.wrap .i64 ((IntKind.wrap .i64 (8 - (if IntKind.wrap .i64 (8 - (Int.tmod x16 8)) < x18 then IntKind.wrap .i64 (8 - (Int.tmod x16 8)) else x18))) - (Int.tmod x16 8)) : Int).toNat 8))).toNat : Int)))] #[true, true, true, true, true, true, true, true, true, true, true, true, true, true, true, true, true, false, false, false] (by kernel_rfl) (by kernel_rfl) ?_
  refine atod 57 (u8 (ibits .and .u8 ((b8 (IntKind.wrap .u8 (IntKind.wrap .u64 (x17 * 2 ^ min (Int.tmod x16 8 : Int).toNat 64)))).toNat : Int) ((b8 (Int.fdiv 255 (2 ^ min (IntKind.wrap .i64 ((IntKind.wrap .i64 (8 - (if IntKind.wrap .i64 (8 - (Int.tmod x16 8)) < x18 then IntKind.wrap .i64 (8 - (Int.tmod x16 8)) else x18))) - (Int.tmod x16 8)) : Int).toNat 8))).toNat : Int))) (u8 ((b8 (ibits .and .u8 ((b8 (IntKind.wrap .u8 (IntKind.wrap .u64 (x17 * 2 ^ min (Int.tmod x16 8 : Int).toNat 64)))).toNat : Int) ((b8 (Int.fdiv 255 (2 ^ min (IntKind.wrap .i64 ((IntKind.wrap .i64 (8 - (if IntKind.wrap .i64 (8 - (Int.tmod x16 8)) < x18 then IntKind.wrap .i64 (8 - (Int.tmod x16 8)) else x18))) - (Int.tmod x16 8)) : Int).toNat 8))).toNat : Int))).toNat : Int)) (by kernel_rfl) (by rw [show ((b8 (ibits .and .u8 ((b8 (IntKind.wrap .u8 (IntKind.wrap .u64 (x17 * 2 ^ min (Int.tmod x16 8 : Int).toNat 64)))).toNat : Int) ((b8 (Int.fdiv 255 (2 ^ min (IntKind.wrap .i64 ((IntKind.wrap .i64 (8 - (if IntKind.wrap .i64 (8 - (Int.tmod x16 8)) < x18 then IntKind.wrap .i64 (8 - (Int.tmod x16 8)) else x18))) - (Int.tmod x16 8)) : Int).toNat 8))).toNat : Int))).toNat : Int) = ibits .and .u8 ((b8 (IntKind.wrap .u8 (IntKind.wrap .u64 (x17 * 2 ^ min (Int.tmod x16 8 : Int).toNat 64)))).toNat : Int) ((b8 (Int.fdiv 255 (2 ^ min (IntKind.wrap .i64 ((IntKind.wrap .i64 (8 - (if IntKind.wrap .i64 (8 - (Int.tmod x16 8)) < x18 then IntKind.wrap .i64 (8 - (Int.tmod x16 8)) else x18))) - (Int.tmod x16 8)) : Int).toNat 8))).toNat : Int) from b8_bits _ _ _]) ?_
  refine AAny_seg 2 [17] 0xc000a0038001d82 (mkS 71 [(1, i64 a1), (7, .vw m1 0 ((v1 : Int).toNat) ((v1 : Int).toNat)), (8, i64 x16), (10, u64 x17), (11, i64 x18), (12, i64 (if IntKind.wrap .i64 (8 - (Int.tmod x16 8)) < x18 then IntKind.wrap .i64 (8 - (Int.tmod x16 8)) else x18)), (27, .sl 1 (a0.map eU) none), (28, i64 (a0.length : Int)), (29, i64 x11), (41, .vw m1 0 ((v1 : Int).toNat) ((v1 : Int).toNat)), (43, i64 (IntKind.wrap .i64 (Int.tdiv x16 8))), (58, u8 (ibits .or .u8 ((rd x19 (IntKind.wrap .i64 (Int.tdiv x16 8)) 0).toNat : Int) ((b8 (ibits .and .u8 ((b8 (IntKind.wrap .u8 (IntKind.wrap .u64 (x17 * 2 ^ min (Int.tmod x16 8 : Int).toNat 64)))).toNat : Int) ((b8 (Int.fdiv 255 (2 ^ min (IntKind.wrap .i64 ((IntKind.wrap .i64 (8 - (if IntKind.wrap .i64 (8 - (Int.tmod x16 8)) < x18 then IntKind.wrap .i64 (8 - (Int.tmod x16 8)) else x18))) - (Int.tmod x16 8)) : Int).toNat 8))).toNat : Int))).toNat : Int)))]) none #[true, true, true, true, true, true, true, true, true, true, true, true, true, true, true, true, true, true, false, false] (by kernel_rfl) trivial (by kernel_rfl) ?_
  refine atod 58 (u8 (ibits .or .u8 ((rd x19 (IntKind.wrap .i64 (Int.tdiv x16 8)) 0).toNat : Int) ((b8 (ibits .and .u8 ((b8 (IntKind.wrap .u8 (IntKind.wrap .u64 (x17 * 2 ^ min (Int.tmod x16 8 : Int).toNat 64)))).toNat : Int) ((b8 (Int.fdiv 255 (2 ^ min (IntKind.wrap .i64 ((IntKind.wrap .i64 (8 - (if IntKind.wrap .i64 (8 - (Int.tmod x16 8)) < x18 then IntKind.wrap .i64 (8 - (Int.tmod x16 8)) else x18))) - (Int.tmod x16 8)) : Int).toNat 8))).toNat : Int))).toNat : Int))) (u8 ((b8 (ibits .or .u8 ((rd x19 (IntKind.wrap .i64 (Int.tdiv x16 8)) 0).toNat : Int) ((b8 (ibits .and .u8 ((b8 (IntKind.wrap .u8 (IntKind.wrap .u64 (x17 * 2 ^ min (Int.tmod x16 8 : Int).toNat 64)))).toNat : Int) ((b8 (Int.fdiv 255 (2 ^ min (IntKind.wrap .i64 ((IntKind.wrap .i64 (8 - (if IntKind.wrap .i64 (8 - (Int.tmod x16 8)) < x18 then IntKind.wrap .i64 (8 - (Int.tmod x16 8)) else x18))) - (Int.tmod x16 8)) : Int).toNat 8))).toNat : Int))).toNat : Int))).toNat : Int)) (by kernel_rfl) (by rw [show ((b8 (ibits .or .u8 ((rd x19 (IntKind.wrap .i64 (Int.tdiv x16 8)) 0).toNat : Int) ((b8 (ibits .and .u8 ((b8 (IntKind.wrap .u8 (IntKind.wrap .u64 (x17 * 2 ^ min (Int.tmod x16 8 : Int).toNat 64)))).toNat : Int) ((b8 (Int.fdiv 255 (2 ^ min (IntKind.wrap .i64 ((IntKind.wrap .i64 (8 - (if IntKind.wrap .i64 (8 - (Int.tmod x16 8)) < x18 then IntKind.wrap .i64 (8 - (Int.tmod x16 8)) else x18))) - (Int.tmod x16 8)) : Int).toNat 8))).toNat : Int))).toNat : Int))).toNat : Int) = ibits .or .u8 ((rd x19 (IntKind.wrap .i64 (Int.tdiv x16 8)) 0).toNat : Int) ((b8 (ibits .and .u8 ((b8 (IntKind.wrap .u8 (IntKind.wrap .u64 (x17 * 2 ^ min (Int.tmod x16 8 : Int).toNat 64)))).toNat : Int) ((b8 (Int.fdiv 255 (2 ^ min (IntKind.wrap .i64 ((IntKind.wrap .i64 (8 - (if IntKind.wrap .i64 (8 - (Int.tmod x16 8)) < x18 then IntKind.wrap .i64 (8 - (Int.tmod x16 8)) else x18))) - (Int.tmod x16 8)) : Int).toNat 8))).toNat : Int))).toNat : Int) from b8_bits _ _ _]) ?_
  obtain ⟨hi52, h⟩ := is h
  refine asegc 1 [18] [1, 7, 8, 10, 11, 12, 27, 28, 29, 58, 59] [(59, .ob m1 (0 + (IntKind.wrap .i64 (Int.tdiv x16 8) : Int).toNat * 1))] (0 ≤ (IntKind.wrap .i64 (Int.tdiv x16 8)) ∧ (IntKind.wrap .i64 (Int.tdiv x16 8)) < (((v1 : Int).toNat : Nat) : Int)) #[true, true, true, true, true, true, true, true, true, true, true, true, true, true, true, true, true, true, true, false] (by kernel_rfl) (hi52) (by kernel_rfl) ?_
  refine AAny_eff (fuel := 0) 19 (.inr trivial) (tl_get rfl) (by kernel_rfl) (by kernel_rfl) (by kernel_rfl) ?_
  refine AOps_rowPut (E := eB) (sz := 1) (r := x19) (T := 5) (ds := [u8 ((b8 (ibits .or .u8 ((rd x19 (IntKind.wrap .i64 (Int.tdiv x16 8)) 0).toNat : Int) ((b8 (ibits .and .u8 ((b8 (IntKind.wrap .u8 (IntKind.wrap .u64 (x17 * 2 ^ min (Int.tmod x16 8 : Int).toNat 64)))).toNat : Int) ((b8 (Int.fdiv 255 (2 ^ min (IntKind.wrap .i64 ((IntKind.wrap .i64 (8 - (if IntKind.wrap .i64 (8 - (Int.tmod x16 8)) < x18 then IntKind.wrap .i64 (8 - (Int.tmod x16 8)) else x18))) - (Int.tmod x16 8)) : Int).toNat 8))).toNat : Int))).toNat : Int))).toNat : Int)]) (IntKind.wrap .i64 (Int.tdiv x16 8)) 0 0 (b8 (ibits .or .u8 ((rd x19 (IntKind.wrap .i64 (Int.tdiv x16 8)) 0).toNat : Int) ((b8 (ibits .and .u8 ((b8 (IntKind.wrap .u8 (IntKind.wrap .u64 (x17 * 2 ^ min (Int.tmod x16 8 : Int).toNat 64)))).toNat : Int) ((b8 (Int.fdiv 255 (2 ^ min (IntKind.wrap .i64 ((IntKind.wrap .i64 (8 - (if IntKind.wrap .i64 (8 - (Int.tmod x16 8)) < x18 then IntKind.wrap .i64 (8 - (Int.tmod x16 8)) else x18))) - (Int.tmod x16 8)) : Int).toNat 8))).toNat : Int))).toNat : Int))) (tl_get rfl) rfl rfl rfl (hh.ob 0 (by kernel_rfl)) (fun _ => rfl) (by omega) (by have := ln7; omega) rfl (by kernel_rfl) (Nat.le_of_ble_eq_true rfl) rfl (fun S_ u_ => ?_)
  replace hh := hh.obS' 0 (by kernel_rfl) u_
  have ln8 : (setI x19 (IntKind.wrap .i64 (Int.tdiv x16 8)) (b8 (ibits .or .u8 ((rd x19 (IntKind.wrap .i64 (Int.tdiv x16 8)) 0).toNat : Int) ((b8 (ibits .and .u8 ((b8 (IntKind.wrap .u8 (IntKind.wrap .u64 (x17 * 2 ^ min (Int.tmod x16 8 : Int).toNat 64)))).toNat : Int) ((b8 (Int.fdiv 255 (2 ^ min (IntKind.wrap .i64 ((IntKind.wrap .i64 (8 - (if IntKind.wrap .i64 (8 - (Int.tmod x16 8)) < x18 then IntKind.wrap .i64 (8 - (Int.tmod x16 8)) else x18))) - (Int.tmod x16 8)) : Int).toNat 8))).toNat : Int))).toNat : Int)))).length = (v1 : Int).toNat := setI_len _ _ ln7
  refine AOps_end ⟨rfl, _, rfl, ?_⟩; refine afg0 [1, 7, 8, 10, 11, 12, 27, 28, 29] #[true, true, true, true, true, true, true, true, true, true, true, true, true, true, true, true, true, true, true, true] (by kernel_rfl) ?_
  refine AAny_end (.inr trivial) (by kernel_rfl) ?_
  refine athen_n ?_
  refine zsr ?_
  obtain ⟨hi53, h⟩ := is h
  refine segc 3 [1, 7, 8, 11, 12, 27, 28, 29, 62] [(62, u64 (Int.fdiv x17 (2 ^ min (if IntKind.wrap .i64 (8 - (Int.tmod x16 8)) < x18 then IntKind.wrap .i64 (8 - (Int.tmod x16 8)) else x18 : Int).toNat 64)))] (0 ≤ (if IntKind.wrap .i64 (8 - (Int.tmod x16 8)) < x18 then IntKind.wrap .i64 (8 - (Int.tmod x16 8)) else x18)) [3] (by kernel_rfl) (by kernel_rfl) (hi53) ?_
  refine seg 1 [1, 7, 8, 10, 11, 12, 27, 28, 29] [(10, u64 (Int.fdiv x17 (2 ^ min (if IntKind.wrap .i64 (8 - (Int.tmod x16 8)) < x18 then IntKind.wrap .i64 (8 - (Int.tmod x16 8)) else x18 : Int).toNat 64)))] [] (by kernel_rfl) (by kernel_rfl) ?_
  refine znr ?_
  refine seg 3 [1, 7, 10, 11, 12, 27, 28, 29, 65] [(65, i64 (IntKind.wrap .i64 (x16 + (if IntKind.wrap .i64 (8 - (Int.tmod x16 8)) < x18 then IntKind.wrap .i64 (8 - (Int.tmod x16 8)) else x18))))] [3, 4, 5, 6, 7] (by kernel_rfl) (by kernel_rfl) ?_
  refine seg 3 [1, 7, 10, 27, 28, 29, 65, 68] [(68, i64 (IntKind.wrap .i64 (x18 - (if IntKind.wrap .i64 (8 - (Int.tmod x16 8)) < x18 then IntKind.wrap .i64 (8 - (Int.tmod x16 8)) else x18))))] [6, 7] (by kernel_rfl) (by kernel_rfl) ?_
  refine seg 2 [1, 7, 8, 10, 11, 27, 28, 29] [(8, i64 (IntKind.wrap .i64 (x16 + (if IntKind.wrap .i64 (8 - (Int.tmod x16 8)) < x18 then IntKind.wrap .i64 (8 - (Int.tmod x16 8)) else x18)))), (11, i64 (IntKind.wrap .i64 (x18 - (if IntKind.wrap .i64 (8 - (Int.tmod x16 8)) < x18 then IntKind.wrap .i64 (8 - (Int.tmod x16 8)) else x18))))] [] (by kernel_rfl) (by kernel_rfl) ?_
  refine AOps_end ?_
  refine ablock_n ?_
  refine athen_n ?_
  exact ⟨k6, (by omega), (by omega), IntKind.wrap .i64 (x16 + (if IntKind.wrap .i64 (8 - (Int.tmod x16 8)) < x18 then IntKind.wrap .i64 (8 - (Int.tmod x16 8)) else x18)), Int.fdiv x17 (2 ^ min (if IntKind.wrap .i64 (8 - (Int.tmod x16 8)) < x18 then IntKind.wrap .i64 (8 - (Int.tmod x16 8)) else x18 : Int).toNat 64), IntKind.wrap .i64 (x18 - (if IntKind.wrap .i64 (8 - (Int.tmod x16 8)) < x18 then IntKind.wrap .i64 (8 - (Int.tmod x16 8)) else x18)), setI x19 (IntKind.wrap .i64 (Int.tdiv x16 8)) (b8 (ibits .or .u8 ((rd x19 (IntKind.wrap .i64 (Int.tdiv x16 8)) 0).toNat : Int) ((b8 (ibits .and .u8 ((b8 (IntKind.wrap .u8 (IntKind.wrap .u64 (x17 * 2 ^ min (Int.tmod x16 8 : Int).toNat 64)))).toNat : Int) ((b8 (Int.fdiv 255 (2 ^ min (IntKind.wrap .i64 ((IntKind.wrap .i64 (8 - (if IntKind.wrap .i64 (8 - (Int.tmod x16 8)) < x18 then IntKind.wrap .i64 (8 - (Int.tmod x16 8)) else x18))) - (Int.tmod x16 8)) : Int).toNat 8))).toNat : Int))).toNat : Int))), (le_rf (by kernel_rfl)), h, hh, ln8⟩
def cursor_lay_uint64.l0 : Nat → Int → Int → (List UInt8) → Int → Option ((List UInt8))
  | 0, _, _, _, _ => none
  | k + 1, a2, x1, x2, x3 => if (decide (x3 < a2)) = true then (if (x2.length + 1) * 1 ≤ 140737488355328 then (cursor_lay_uint64.l0 k a2 (Int.fdiv x1 (2 ^ min (8 : Int).toNat 64)) (x2 ++ ([(b8 (IntKind.wrap .u8 x1))] : List UInt8)) (IntKind.wrap .i64 (x3 + 1))) else none) else (some x2)
def cursor_lay_uint64.f (k : Nat) (a0 : (List UInt8)) (a1 : Int) (a2 : Int) : Option ((List UInt8)) := if 0 ≤ (IntKind.wrap .i64 ((a0.length : Int) + a2)) ∧ (1 : Int) * (IntKind.wrap .i64 ((a0.length : Int) + a2)) ≤ 281474976710656 ∧ (IntKind.wrap .i64 ((a0.length : Int) + a2)) ≤ 9223372036854775807 then (if (([] : List UInt8).length + a0.length) * 1 ≤ 140737488355328 then (cursor_lay_uint64.l0 k a2 a1 (([] : List UInt8) ++ a0) 0) else none) else none
theorem cursor_lay_uint64.mono_l : ∀ k, (∀ y0 y1 y2 y3, LeO (cursor_lay_uint64.l0 k y0 y1 y2 y3) (cursor_lay_uint64.l0 (k + 1) y0 y1 y2 y3))
  | 0 => fun _ _ _ _ r h => (by simp only [cursor_lay_uint64.l0] at h; cases h)
  | k + 1 => by
    have ih := cursor_lay_uint64.mono_l k
    · intro y0 y1 y2 y3
      rw [cursor_lay_uint64.l0, cursor_lay_uint64.l0]
      repeat' first
        | exact LeO.refl _
        | exact LeO.none _
        | exact ih _ _ _ _
        | refine LeO.ite ?_ ?_
        | refine LeO.bind ?_ (fun _ => ?_)
theorem cursor_lay_uint64.mono (k : Nat) (a0 : (List UInt8)) (a1 : Int) (a2 : Int) : LeO (cursor_lay_uint64.f k a0 a1 a2) (cursor_lay_uint64.f (k + 1) a0 a1 a2) := by
  unfold cursor_lay_uint64.f
  repeat' first
    | exact LeO.refl _
    | exact LeO.none _
    | exact (cursor_lay_uint64.mono_l k) _ _ _ _
    | refine LeO.ite ?_ ?_
    | refine LeO.bind ?_ (fun _ => ?_)
theorem cursor_lay_uint64.ok (k : Nat) (a0 : (List UInt8)) (a1 : Int) (a2 : Int) (S : Store) (r : (List UInt8)) (h : cursor_lay_uint64.f k a0 a1 a2 = some r) : ACalls Try.prog 75 [.sl 1 (a0.map eB) none, u64 a1, i64 a2] S (fun r_ S_ => ∃ (u0 : Nat), r_ = .sl 1 (r.map eB) (some u0) ∧ Own S [] S_ [.t u0 (r).length 1]) := by
  unfold cursor_lay_uint64.f at h
  refine acalls_of Try.func75 rfl ?_
  have hh := Own.nil (S := S)
  refine AT_forget 0x7 (mkS 28 [(0, .sl 1 (a0.map eB) none), (1, u64 a1), (2, i64 a2)]) (by kernel_rfl) ?_
  refine zsr ?_
  refine seg 1 [0, 1, 2] [] [] (by kernel_rfl) (by kernel_rfl) ?_
  refine znsr ?_
  refine seg 2 [0, 1, 2, 9] [(9, i64 ((a0.map eB).length : Int))] [2, 3, 4, 5] (by kernel_rfl) (by kernel_rfl) ?_
  refine tod 9 (i64 ((a0.map eB).length : Int)) (i64 (a0.length : Int)) (by kernel_rfl) (by rw [List.length_map]) ?_
  refine seg 2 [0, 1, 2, 11] [(11, i64 (IntKind.wrap .i64 ((a0.length : Int) + a2)))] [4, 5] (by kernel_rfl) (by kernel_rfl) ?_
  obtain ⟨hi2, h⟩ := is h
  refine AOps_make0I (kl := .i64) (kc := .i64) (.int .u8 0) 1 1 (IntKind.wrap .i64 ((a0.length : Int) + a2)) (tl_get rfl) rfl rfl rfl (by kernel_rfl) rfl rfl hi2 (fun S_ t1 hf_ u_ => ?_)
  replace hh := hh.tkN' hf_ u_ (n := (([] : List UInt8)).length) (by first | rfl | (simp [bytesD_len]; done) | (simp [bytesD_len]; omega))
  refine fg [0, 1, 2, 12] ?_
  refine seg 1 [0, 1, 2, 7] [(7, .sl 1 [] (some t1))] [] (by kernel_rfl) (by kernel_rfl) ?_
  refine znsr ?_
  refine seg 2 [1, 2, 13, 14] [(13, .sl 1 [] (some t1)), (14, .sl 1 (a0.map eB) none)] [2, 3] (by kernel_rfl) (by kernel_rfl) ?_
  obtain ⟨hl1, h⟩ := is h
  refine AOps_appendU (bytes := 1) (es := []) (xs := a0.map eB) (tl := none) (([] : List UInt8)).length (tl_get rfl) rfl rfl rfl (by kernel_rfl) rfl (hh.tk 0 (by kernel_rfl)) (by simp only [List.length_map, List.length_cons, List.length_nil]) (.inl ⟨5, by kernel_rfl, rfl⟩) (by simp only [List.length_map, bytesD_len, List.length_cons, List.length_nil]; omega) (by simp only [List.length_map, bytesD_len, List.length_cons, List.length_nil]; omega) (fun S_ u_ => ?_)
  replace hh := hh.tkS' 0 (by kernel_rfl) u_ (n := (([] : List UInt8) ++ a0).length) (by first | rfl | (simp [bytesD_len]; done) | (simp [bytesD_len]; omega))
  refine fg [1, 2, 15] ?_
  refine tod 15 (.sl 1 ([] ++ (a0.map eB)) (some t1)) (.sl 1 ((([] : List UInt8) ++ a0).map eB) (some t1)) (by kernel_rfl) (by first | rw [List.map_append]; done | (simp only [List.map_append]; done) | (simp only [List.map_append]; rfl) | (rw [List.map_append]; rfl)) ?_
  refine seg 1 [1, 2, 7] [(7, .sl 1 ((([] : List UInt8) ++ a0).map eB) (some t1))] [] (by kernel_rfl) (by kernel_rfl) ?_
  refine zn ?_
  refine AT_seq ?_
  refine zsr ?_
  refine AOps_seg 2 0x30082 (mkS 28 [(1, u64 a1), (7, .sl 1 ((([] : List UInt8) ++ a0).map eB) (some t1)), (16, i64 a2), (17, i64 0)]) none [] (by kernel_rfl) (by kernel_rfl) trivial ?_
  refine zn ?_
  refine AT_block ?_
  refine AT_loopM 0x30082 (fun k_ sl_ S_ => k_ ≤ k ∧ ∃ (x1 : Int), ∃ (x2 : (List UInt8)), ∃ (x3 : Int), ∃ (tk1 : Nat), LeL sl_ (mkS 28 [(1, u64 x1), (7, .sl 1 (x2.map eB) (some tk1)), (16, i64 a2), (17, i64 x3)]) ∧ cursor_lay_uint64.l0 k_ a2 x1 x2 x3 = some r ∧ Own S [] S_ [.t tk1 (x2).length 1]) k ⟨Nat.le_refl _, a1, ([] : List UInt8) ++ a0, 0, t1, (le_rf (by kernel_rfl)), h, hh⟩ ?_
  clear hh h
  rintro k' sl_ S_ ⟨hk_, x1, x2, x3, tk1, hl_, h, hh⟩
  refine AT_weaken hl_ ?_
  obtain _ | k1 := k'
  · cases h
  rw [cursor_lay_uint64.l0] at h
  refine zsr ?_
  refine seg 1 [1, 7, 16, 17, 18] [(18, bo (decide (x3 < a2)))] [] (by kernel_rfl) (by kernel_rfl) ?_
  refine zn ?_
  refine AT_seq ?_
  refine AT_condR (decide (x3 < a2)) (by kernel_rfl) (fun hc1 => ?_) (fun hc1 => ?_)
  · rw [if_f hc1] at h
    refine AT_exit ?_
    refine athen_e ?_
    refine athen_e ?_
    refine ablock_h ?_
    refine athen_n ?_
    refine zsr ?_
    refine seg 2 [6] [(6, .sl 1 (x2.map eB) (some tk1))] [] (by kernel_rfl) (by kernel_rfl) ?_
    refine zn ?_
    refine AT_ret ?_
    have e_ := Option.some.inj h
    subst e_
    exact ⟨[.sl 1 (x2.map eB) (some tk1)], _, S_, (.of (by kernel_rfl)), D.le.refl _, Store.le.refl _, tk1, rfl, hh⟩
  rw [if_t hc1] at h
  refine zkn ?_
  refine AT_seq ?_
  refine AT_block ?_
  refine zsr ?_
  refine seg 3 [1, 16, 17, 19, 21] [(19, .sl 1 (x2.map eB) (some tk1)), (21, u8 (IntKind.wrap .u8 x1))] [3, 4, 5] (by kernel_rfl) (by kernel_rfl) ?_
  refine tod 21 (u8 (IntKind.wrap .u8 x1)) (u8 ((b8 (IntKind.wrap .u8 x1)).toNat : Int)) (by kernel_rfl) (by rw [show ((b8 (IntKind.wrap .u8 x1)).toNat : Int) = IntKind.wrap .u8 x1 from b8_wrap _]) ?_
  refine AOps_litU (sz := 1) (es := [[u8 ((b8 (IntKind.wrap .u8 x1)).toNat : Int)]]) (tl_get rfl) rfl rfl rfl (by kernel_rfl) (by decide) (by kernel_rfl) (by decide) (by kernel_rfl) (by kernel_rfl) (by intro x hx; simp only [List.mem_cons, List.not_mem_nil, or_false] at hx; rcases hx with rfl <;> rfl) (fun S_ t2 hf_ u_ => ?_)
  replace hh := hh.tkN' hf_ u_ (n := (([(b8 (IntKind.wrap .u8 x1))] : List UInt8)).length) (by first | rfl | (simp [bytesD_len]; done) | (simp [bytesD_len]; omega))
  refine fg [1, 16, 17, 19, 22] ?_
  obtain ⟨hl2, h⟩ := is h
  refine AOps_appendU (bytes := 1) (es := x2.map eB) (xs := [[u8 ((b8 (IntKind.wrap .u8 x1)).toNat : Int)]]) (tl := (some t2)) (x2).length (tl_get rfl) rfl rfl rfl (by kernel_rfl) rfl (hh.tk 0 (by kernel_rfl)) (by simp only [List.length_map, List.length_cons, List.length_nil]) (.inl ⟨5, by kernel_rfl, rfl⟩) (by simp only [List.length_map, bytesD_len, List.length_cons, List.length_nil]; omega) (by simp only [List.length_map, bytesD_len, List.length_cons, List.length_nil]; omega) (fun S_ u_ => ?_)
  replace hh := hh.tkS' 0 (by kernel_rfl) u_ (n := (x2 ++ ([(b8 (IntKind.wrap .u8 x1))] : List UInt8)).length) (by first | rfl | (simp [bytesD_len]; done) | (simp [bytesD_len]; omega))
  refine fg [1, 16, 17, 23] ?_
  refine tod 23 (.sl 1 ((x2.map eB) ++ [[u8 ((b8 (IntKind.wrap .u8 x1)).toNat : Int)]]) (some tk1)) (.sl 1 ((x2 ++ ([(b8 (IntKind.wrap .u8 x1))] : List UInt8)).map eB) (some tk1)) (by kernel_rfl) (by first | rw [List.map_append]; done | (simp only [List.map_append]; done) | (simp only [List.map_append]; rfl) | (rw [List.map_append]; rfl)) ?_
  refine seg 1 [1, 7, 16, 17] [(7, .sl 1 ((x2 ++ ([(b8 (IntKind.wrap .u8 x1))] : List UInt8)).map eB) (some tk1))] [] (by kernel_rfl) (by kernel_rfl) ?_
  refine znr ?_
  refine segc 2 [7, 16, 17, 25] [(25, u64 (Int.fdiv x1 (2 ^ min (8 : Int).toNat 64)))] ((0 : Int) ≤ 8) [2] (by kernel_rfl) (by kernel_rfl) ((by show (0 : Int) ≤ 8; decide)) ?_
  refine seg 1 [1, 7, 16, 17] [(1, u64 (Int.fdiv x1 (2 ^ min (8 : Int).toNat 64)))] [] (by kernel_rfl) (by kernel_rfl) ?_
  refine AOps_end ?_
  refine ablock_n ?_
  refine athen_n ?_
  refine AT_region ?_
  refine seg 2 [1, 7, 16, 17] [(17, i64 (IntKind.wrap .i64 (x3 + 1)))] [] (by kernel_rfl) (by kernel_rfl) ?_
  refine zn ?_
  exact ⟨k1, (by omega), (by omega), Int.fdiv x1 (2 ^ min (8 : Int).toNat 64), x2 ++ ([(b8 (IntKind.wrap .u8 x1))] : List UInt8), IntKind.wrap .i64 (x3 + 1), tk1, (le_rf (by kernel_rfl)), h, (hh.sub [0] (by decide) (by kernel_rfl))⟩
def cursor_U64.f (k : Nat) (a0 : (List UInt8)) (a1 : Int) : Option ((List UInt8)) := (cursor_lay_uint64.f k a0 a1 8).bind fun v1 => (some v1)
theorem cursor_U64.mono (k : Nat) (a0 : (List UInt8)) (a1 : Int) : LeO (cursor_U64.f k a0 a1) (cursor_U64.f (k + 1) a0 a1) := by
  unfold cursor_U64.f
  repeat' first
    | exact LeO.refl _
    | exact LeO.none _
    | exact cursor_lay_uint64.mono _ _ _ _
    | refine LeO.ite ?_ ?_
    | refine LeO.bind ?_ (fun _ => ?_)
theorem cursor_U64.ok (k : Nat) (a0 : (List UInt8)) (a1 : Int) (S : Store) (r : (List UInt8)) (h : cursor_U64.f k a0 a1 = some r) : ACalls Try.prog 61 [.sl 1 (a0.map eB) none, u64 a1] S (fun r_ S_ => ∃ (u0 : Nat), r_ = .sl 1 (r.map eB) (some u0) ∧ Own S [] S_ [.t u0 (r).length 1]) := by
  unfold cursor_U64.f at h
  refine acalls_of Try.func61 rfl ?_
  have hh := Own.nil (S := S)
  refine AT_forget 0x3 (mkS 8 [(0, .sl 1 (a0.map eB) none), (1, u64 a1)]) (by kernel_rfl) ?_
  refine zsr ?_
  refine seg 1 [0, 1] [] [] (by kernel_rfl) (by kernel_rfl) ?_
  refine znsr ?_
  refine seg 2 [5, 6] [(5, .sl 1 (a0.map eB) none), (6, u64 a1)] [2, 3] (by kernel_rfl) (by kernel_rfl) ?_
  obtain ⟨v1, ht1, h⟩ := bs h
  refine AOps_callR _ [.sl 1 (a0.map eB) none, u64 a1, i64 8] (tl_get rfl) rfl rfl rfl rfl Try.func75 (by decide) rfl ((.cons (D.le.refl _) (.cons (D.le.refl _) (.cons (D.le.refl _) (.nil))))) (cursor_lay_uint64.ok _ a0 a1 8 _  _ ht1) ?_
  rintro _ S_ ⟨t1, rfl, h2_⟩
  replace hh := hh.calln h2_
  refine fg [7] ?_
  refine seg 1 [4] [(4, .sl 1 (v1.map eB) (some t1))] [] (by kernel_rfl) (by kernel_rfl) ?_
  refine zn ?_
  refine AT_ret ?_
  have e_ := Option.some.inj h
  subst e_
  exact ⟨[.sl 1 (v1.map eB) (some t1)], _, S_, (.of (by kernel_rfl)), D.le.refl _, Store.le.refl _, t1, rfl, hh⟩
def varint_Zig.f (a0 : Int) : Option (Int) := some (ibits .xor .u64 (IntKind.wrap .u64 ((IntKind.wrap .u64 a0) * 2 ^ min (1 : Int).toNat 64)) (IntKind.wrap .u64 (Int.fdiv a0 (2 ^ min (63 : Int).toNat 64))))
theorem varint_Zig.ok (a0 : Int) (S : Store) (r : Int) (h : varint_Zig.f a0 = some r) : ACalls Try.prog 62 [i64 a0] S (fun r_ S_ => r_ = u64 r ∧ Own S [] S_ []) := by
  unfold varint_Zig.f at h
  refine acalls_of Try.func62 rfl ?_
  have hh := Own.nil (S := S)
  refine AT_forget 0x1 (mkS 10 [(0, i64 a0)]) (by kernel_rfl) ?_
  refine zsr ?_
  refine seg 1 [0] [] [] (by kernel_rfl) (by kernel_rfl) ?_
  refine znsr ?_
  refine segc 3 [0, 5] [(5, u64 (IntKind.wrap .u64 ((IntKind.wrap .u64 a0) * 2 ^ min (1 : Int).toNat 64)))] ((0 : Int) ≤ 1) [3, 4, 5, 6, 7] (by kernel_rfl) (by kernel_rfl) ((by show (0 : Int) ≤ 1; decide)) ?_
  refine segc 2 [5, 7] [(7, i64 (Int.fdiv a0 (2 ^ min (63 : Int).toNat 64)))] ((0 : Int) ≤ 63) [5, 6, 7] (by kernel_rfl) (by kernel_rfl) ((by show (0 : Int) ≤ 63; decide)) ?_
  refine seg 1 [5, 8] [(8, u64 (IntKind.wrap .u64 (Int.fdiv a0 (2 ^ min (63 : Int).toNat 64))))] [6, 7] (by kernel_rfl) (by kernel_rfl) ?_
  refine seg 1 [9] [(9, u64 (ibits .xor .u64 (IntKind.wrap .u64 ((IntKind.wrap .u64 a0) * 2 ^ min (1 : Int).toNat 64)) (IntKind.wrap .u64 (Int.fdiv a0 (2 ^ min (63 : Int).toNat 64)))))] [7] (by kernel_rfl) (by kernel_rfl) ?_
  refine seg 1 [2] [(2, u64 (ibits .xor .u64 (IntKind.wrap .u64 ((IntKind.wrap .u64 a0) * 2 ^ min (1 : Int).toNat 64)) (IntKind.wrap .u64 (Int.fdiv a0 (2 ^ min (63 : Int).toNat 64)))))] [] (by kernel_rfl) (by kernel_rfl) ?_
  refine zn ?_
  refine AT_ret ?_
  have e_ := Option.some.inj h
  subst e_
  exact ⟨[u64 (ibits .xor .u64 (IntKind.wrap .u64 ((IntKind.wrap .u64 a0) * 2 ^ min (1 : Int).toNat 64)) (IntKind.wrap .u64 (Int.fdiv a0 (2 ^ min (63 : Int).toNat 64))))], _, S, (.of (by kernel_rfl)), D.le.refl _, Store.le.refl _, rfl, hh⟩
end Go.Proofs.Ytfaojkajlpojlaa.Abs
