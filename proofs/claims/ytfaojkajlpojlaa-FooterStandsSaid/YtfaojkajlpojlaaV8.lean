/- What functions of the program compute, each with the proof that it does (printed by wip/gen/all2.py). -/
import Derived.Test.YtfaojkajlpojlaaV7
import Derived.KernelRfl
namespace Go.Proofs.Ytfaojkajlpojlaa.Abs
open Go
set_option maxRecDepth 100000
mutual
def varint_Get_s0.j0 : Nat → Int → Int → UInt8 → Cursor → Option (Int × Cursor)
  | 0, _, _, _, _ => none
  | k + 1, x9, x10, v14, v15 => if 0 ≤ (IntKind.wrap .i64 (7 * x10)) then (if (decide ((v14.toNat : Int) < 128)) = true then (some (ibits .or .u64 x9 (IntKind.wrap .u64 ((IntKind.wrap .u64 ((b8 (ibits .andNot .u8 (v14.toNat : Int) 128)).toNat : Int)) * 2 ^ min (IntKind.wrap .i64 (7 * x10) : Int).toNat 64)), v15)) else (varint_Get_s0.g0 k (ibits .or .u64 x9 (IntKind.wrap .u64 ((IntKind.wrap .u64 ((b8 (ibits .andNot .u8 (v14.toNat : Int) 128)).toNat : Int)) * 2 ^ min (IntKind.wrap .i64 (7 * x10) : Int).toNat 64))) (IntKind.wrap .i64 (x10 + 1)) v15.left v15.bad)) else none
def varint_Get_s0.g0 : Nat → Int → Int → (List UInt8) → Bool → Option (Int × Cursor)
  | 0, _, _, _, _ => none
  | k + 1, x9, x10, x11, x12 => (cursor_Cursor_Byte_s0.f k (⟨x11, x12⟩ : Cursor)).bind fun q_v14 => ((cursor_Cursor_Bad_s0.f q_v14.2).bind fun v16 => (if v16 = true then (some (0, q_v14.2)) else (if (decide (x10 > 0)) = true then (if ((q_v14.1.toNat : Int) == 0) = true then (varint_Get_s0.g1 k q_v14.2.left q_v14.2.bad) else (if (x10 == 9) = true then (if (decide ((q_v14.1.toNat : Int) > 1)) = true then (varint_Get_s0.g1 k q_v14.2.left q_v14.2.bad) else (varint_Get_s0.j0 k x9 x10 q_v14.1 q_v14.2)) else (varint_Get_s0.j0 k x9 x10 q_v14.1 q_v14.2))) else (if (x10 == 9) = true then (if (decide ((q_v14.1.toNat : Int) > 1)) = true then (varint_Get_s0.g1 k q_v14.2.left q_v14.2.bad) else (varint_Get_s0.j0 k x9 x10 q_v14.1 q_v14.2)) else (varint_Get_s0.j0 k x9 x10 q_v14.1 q_v14.2)))))
def varint_Get_s0.g1 : Nat → (List UInt8) → Bool → Option (Int × Cursor)
  | 0, _, _ => none
  | k + 1, x13, x14 => (cursor_Cursor_Fail_s0.f (⟨x13, x14⟩ : Cursor)).bind fun v17 => (some (0, v17))
end
def varint_Get_s0.f (k : Nat) (a0 : Cursor) : Option (Int × Cursor) := (cursor_Cursor_Byte_s0.f k a0).bind fun q_v11 => ((cursor_Cursor_Bad_s0.f q_v11.2).bind fun v13 => (if v13 = true then (some (0, q_v11.2)) else (if 0 ≤ (IntKind.wrap .i64 (7 * 0)) then (if (decide ((q_v11.1.toNat : Int) < 128)) = true then (some (ibits .or .u64 0 (IntKind.wrap .u64 ((IntKind.wrap .u64 ((b8 (ibits .andNot .u8 (q_v11.1.toNat : Int) 128)).toNat : Int)) * 2 ^ min (IntKind.wrap .i64 (7 * 0) : Int).toNat 64)), q_v11.2)) else (varint_Get_s0.g0 k (ibits .or .u64 0 (IntKind.wrap .u64 ((IntKind.wrap .u64 ((b8 (ibits .andNot .u8 (q_v11.1.toNat : Int) 128)).toNat : Int)) * 2 ^ min (IntKind.wrap .i64 (7 * 0) : Int).toNat 64))) (IntKind.wrap .i64 (0 + 1)) q_v11.2.left q_v11.2.bad)) else none)))
theorem varint_Get_s0.mono_l : ∀ k, (∀ y0 y1 y2 y3, LeO (varint_Get_s0.j0 k y0 y1 y2 y3) (varint_Get_s0.j0 (k + 1) y0 y1 y2 y3)) ∧ (∀ y0 y1 y2 y3, LeO (varint_Get_s0.g0 k y0 y1 y2 y3) (varint_Get_s0.g0 (k + 1) y0 y1 y2 y3)) ∧ (∀ y0 y1, LeO (varint_Get_s0.g1 k y0 y1) (varint_Get_s0.g1 (k + 1) y0 y1))
  | 0 => ⟨fun _ _ _ _ r h => (by simp only [varint_Get_s0.j0] at h; cases h), fun _ _ _ _ r h => (by simp only [varint_Get_s0.g0] at h; cases h), fun _ _ r h => (by simp only [varint_Get_s0.g1] at h; cases h)⟩
  | k + 1 => by
    have ih := varint_Get_s0.mono_l k
    refine ⟨?_, ?_, ?_⟩
    · intro y0 y1 y2 y3
      rw [varint_Get_s0.j0, varint_Get_s0.j0]
      repeat' first
        | exact LeO.refl _
        | exact LeO.none _
        | exact ih.1 _ _ _ _
        | exact ih.2.1 _ _ _ _
        | exact ih.2.2 _ _
        | exact cursor_Cursor_Byte_s0.mono _ _
        | refine LeO.ite ?_ ?_
        | refine LeO.bind ?_ (fun _ => ?_)
    · intro y0 y1 y2 y3
      rw [varint_Get_s0.g0, varint_Get_s0.g0]
      repeat' first
        | exact LeO.refl _
        | exact LeO.none _
        | exact ih.1 _ _ _ _
        | exact ih.2.1 _ _ _ _
        | exact ih.2.2 _ _
        | exact cursor_Cursor_Byte_s0.mono _ _
        | refine LeO.ite ?_ ?_
        | refine LeO.bind ?_ (fun _ => ?_)
    · intro y0 y1
      rw [varint_Get_s0.g1, varint_Get_s0.g1]
      repeat' first
        | exact LeO.refl _
        | exact LeO.none _
        | exact ih.1 _ _ _ _
        | exact ih.2.1 _ _ _ _
        | exact ih.2.2 _ _
        | exact cursor_Cursor_Byte_s0.mono _ _
        | refine LeO.ite ?_ ?_
        | refine LeO.bind ?_ (fun _ => ?_)
theorem varint_Get_s0.mono (k : Nat) (a0 : Cursor) : LeO (varint_Get_s0.f k a0) (varint_Get_s0.f (k + 1) a0) := by
  unfold varint_Get_s0.f
  repeat' first
    | exact LeO.refl _
    | exact LeO.none _
    | exact (varint_Get_s0.mono_l k).1 _ _ _ _
    | exact (varint_Get_s0.mono_l k).2.1 _ _ _ _
    | exact (varint_Get_s0.mono_l k).2.2 _ _
    | exact cursor_Cursor_Byte_s0.mono _ _
    | refine LeO.ite ?_ ?_
    | refine LeO.bind ?_ (fun _ => ?_)
theorem varint_Get_s0.ok (k : Nat) (a0 : Cursor) (S : Store) (B : List (Bool × Nat)) (b0 : Nat) (hh : Own S B S [.o b0 (.cells 77 [.sl 1 (a0.left.map eB) none, bo a0.bad])]) (r0 : Int) (c0_ : Cursor) (h : varint_Get_s0.f k a0 = some (r0, c0_)) : ACalls Try.prog 36 [.ob b0 0] S (fun r_ S_ => r_ = u64 r0 ∧ Own S B S_ [.o b0 (.cells 77 [.sl 1 (c0_.left.map eB) none, bo c0_.bad])]) := by
  unfold varint_Get_s0.f at h
  refine acalls_of Try.func36 rfl ?_
  refine AT_forget 0x1 (mkS 39 [(0, .ob b0 0)]) (by kernel_rfl) ?_
  refine zsr ?_
  refine seg 1 [0] [] [] (by kernel_rfl) (by kernel_rfl) ?_
  refine zn ?_
  refine AT_scope (fun l_ k_ sl_ S_ => (l_ = 0 ∧ k_ ≤ k ∧ ∃ (x9 : Int), ∃ (x10 : Int), ∃ (x11 : (List UInt8)), ∃ (x12 : Bool), LeL sl_ (mkS 39 [(0, .ob b0 0), (3, u64 x9), (4, i64 x10)]) ∧ varint_Get_s0.g0 k_ x9 x10 x11 x12 = some (r0, c0_) ∧ Own S B S_ [.o b0 (.cells 77 [.sl 1 (x11.map eB) none, bo x12])]) ∨ (l_ = 1 ∧ k_ ≤ k ∧ ∃ (x13 : (List UInt8)), ∃ (x14 : Bool), LeL sl_ (mkS 39 [(0, .ob b0 0)]) ∧ varint_Get_s0.g1 k_ x13 x14 = some (r0, c0_) ∧ Own S B S_ [.o b0 (.cells 77 [.sl 1 (x13.map eB) none, bo x14])])) ?_ ?_
  · refine AT_seq ?_
    refine AT_region ?_
    refine seg 1 [0, 3] [(3, u64 0)] [] (by kernel_rfl) (by kernel_rfl) ?_
    refine znsr ?_
    refine seg 1 [0, 3, 4] [(4, i64 0)] [] (by kernel_rfl) (by kernel_rfl) ?_
    refine zn ?_
    refine AT_seq ?_
    refine AT_label ?_
    refine athen_n ?_
    refine zsr ?_
    refine seg 1 [0, 3, 4, 6] [(6, .ob b0 0)] [1, 2] (by kernel_rfl) (by kernel_rfl) ?_
    obtain ⟨⟨v11, v12⟩, ht8, h⟩ := bs h
    simp only at h
    refine AOps_callR _ [.ob b0 0] (tl_get rfl) rfl rfl rfl rfl Try.func37 (by decide) rfl ((.cons (D.le.refl _) (.nil))) (cursor_Cursor_Byte_s0.ok _ a0 _ _ b0 ((hh.have_ [0] (by decide) (by kernel_rfl)).own) _ _ ht8) ?_
    rintro _ S_ ⟨rfl, h2_⟩
    replace hh := hh.call [0] [] (by decide) (by kernel_rfl) h2_ rfl
    refine fg [0, 3, 4, 7] ?_
    refine seg 1 [0, 3, 4, 5] [(5, u8 (v11.toNat : Int))] [] (by kernel_rfl) (by kernel_rfl) ?_
    refine zn ?_
    refine AT_seq ?_
    refine zsr ?_
    refine seg 1 [0, 3, 4, 5, 8] [(8, .ob b0 0)] [1] (by kernel_rfl) (by kernel_rfl) ?_
    obtain ⟨v13, ht9, h⟩ := bs h
    refine AOps_callR _ [.ob b0 0] (tl_get rfl) rfl rfl rfl rfl Try.func23 (by decide) rfl ((.cons (D.le.refl _) (.nil))) (cursor_Cursor_Bad_s0.ok v12 _ _ b0 ((hh.have_ [0] (by decide) (by kernel_rfl)).own) _ ht9) ?_
    rintro _ S_ ⟨rfl, h2_⟩
    replace hh := hh.call [0] [] (by decide) (by kernel_rfl) h2_ rfl
    refine fg [0, 3, 4, 5, 9] ?_
    refine zn ?_
    refine AT_condS v13 (by kernel_rfl) (fun hc19 => ?_) (fun hc19 => ?_)
    · rw [if_t hc19] at h
      refine zsr ?_
      refine AOps_seg 1 0x4 (mkS 39 [(2, u64 0)]) none [] (by kernel_rfl) (by kernel_rfl) trivial ?_
      refine zn ?_
      refine AT_ret ?_
      refine athen_r ?_
      refine scope_r ?_
      have e0_ : 0 = r0 := congrArg (fun p_ => p_.1) (Option.some.inj h)
      have e1_ : v12 = c0_ := congrArg (fun p_ => p_.2) (Option.some.inj h)
      subst e0_
      subst e1_
      exact ⟨[u64 0], _, S_, (.of (by kernel_rfl)), D.le.refl _, Store.le.refl _, rfl, hh⟩
    rw [if_f hc19] at h
    refine zkn ?_
    refine AT_seq ?_
    refine zsr ?_
    refine AOps_seg 14 0x800039 (mkS 39 [(0, .ob b0 0), (3, u64 0), (4, i64 0), (5, u8 (v11.toNat : Int)), (23, bo false)]) none [] (by kernel_rfl) (by kernel_rfl) trivial ?_
    refine zn ?_
    refine AT_cond_f (by kernel_rfl) ?_
    refine zkn ?_
    refine zsr ?_
    refine seg 3 [0, 4, 5, 24, 26] [(24, u64 0), (26, u8 (ibits .andNot .u8 (v11.toNat : Int) 128))] [3, 4, 5, 6, 7, 8] (by kernel_rfl) (by kernel_rfl) ?_
    refine tod 26 (u8 (ibits .andNot .u8 (v11.toNat : Int) 128)) (u8 ((b8 (ibits .andNot .u8 (v11.toNat : Int) 128)).toNat : Int)) (by kernel_rfl) (by rw [show ((b8 (ibits .andNot .u8 (v11.toNat : Int) 128)).toNat : Int) = ibits .andNot .u8 (v11.toNat : Int) 128 from b8_bits _ _ _]) ?_
    refine seg 1 [0, 4, 5, 24, 27] [(27, u64 (IntKind.wrap .u64 ((b8 (ibits .andNot .u8 (v11.toNat : Int) 128)).toNat : Int)))] [4, 5, 6, 7, 8] (by kernel_rfl) (by kernel_rfl) ?_
    obtain ⟨hi8, h⟩ := is h
    refine segc 3 [0, 4, 5, 24, 30] [(30, u64 (IntKind.wrap .u64 ((IntKind.wrap .u64 ((b8 (ibits .andNot .u8 (v11.toNat : Int) 128)).toNat : Int)) * 2 ^ min (IntKind.wrap .i64 (7 * 0) : Int).toNat 64)))] (0 ≤ (IntKind.wrap .i64 (7 * 0))) [7, 8] (by kernel_rfl) (by kernel_rfl) (hi8) ?_
    refine seg 1 [0, 4, 5, 31] [(31, u64 (ibits .or .u64 0 (IntKind.wrap .u64 ((IntKind.wrap .u64 ((b8 (ibits .andNot .u8 (v11.toNat : Int) 128)).toNat : Int)) * 2 ^ min (IntKind.wrap .i64 (7 * 0) : Int).toNat 64))))] [8] (by kernel_rfl) (by kernel_rfl) ?_
    refine seg 1 [0, 3, 4, 5] [(3, u64 (ibits .or .u64 0 (IntKind.wrap .u64 ((IntKind.wrap .u64 ((b8 (ibits .andNot .u8 (v11.toNat : Int) 128)).toNat : Int)) * 2 ^ min (IntKind.wrap .i64 (7 * 0) : Int).toNat 64))))] [] (by kernel_rfl) (by kernel_rfl) ?_
    refine zn ?_
    refine AT_seq ?_
    refine zsr ?_
    refine seg 2 [0, 3, 4, 33] [(33, bo (decide ((v11.toNat : Int) < 128)))] [] (by kernel_rfl) (by kernel_rfl) ?_
    refine zn ?_
    refine AT_condS (decide ((v11.toNat : Int) < 128)) (by kernel_rfl) (fun hc20 => ?_) (fun hc20 => ?_)
    · rw [if_t hc20] at h
      refine zsr ?_
      refine seg 2 [2] [(2, u64 (ibits .or .u64 0 (IntKind.wrap .u64 ((IntKind.wrap .u64 ((b8 (ibits .andNot .u8 (v11.toNat : Int) 128)).toNat : Int)) * 2 ^ min (IntKind.wrap .i64 (7 * 0) : Int).toNat 64))))] [] (by kernel_rfl) (by kernel_rfl) ?_
      refine zn ?_
      refine AT_ret ?_
      refine athen_r ?_
      refine scope_r ?_
      have e0_ : ibits .or .u64 0 (IntKind.wrap .u64 ((IntKind.wrap .u64 ((b8 (ibits .andNot .u8 (v11.toNat : Int) 128)).toNat : Int)) * 2 ^ min (IntKind.wrap .i64 (7 * 0) : Int).toNat 64)) = r0 := congrArg (fun p_ => p_.1) (Option.some.inj h)
      have e1_ : v12 = c0_ := congrArg (fun p_ => p_.2) (Option.some.inj h)
      subst e0_
      subst e1_
      exact ⟨[u64 (ibits .or .u64 0 (IntKind.wrap .u64 ((IntKind.wrap .u64 ((b8 (ibits .andNot .u8 (v11.toNat : Int) 128)).toNat : Int)) * 2 ^ min (IntKind.wrap .i64 (7 * 0) : Int).toNat 64)))], _, S_, (.of (by kernel_rfl)), D.le.refl _, Store.le.refl _, rfl, hh⟩
    rw [if_f hc20] at h
    refine zkn ?_
    refine zsr ?_
    refine seg 3 [0, 3, 4] [(4, i64 (IntKind.wrap .i64 (0 + 1)))] [] (by kernel_rfl) (by kernel_rfl) ?_
    refine zn ?_
    refine AT_seq ?_
    refine AT_forget 0x19 (mkS 39 [(0, .ob b0 0), (3, u64 (ibits .or .u64 0 (IntKind.wrap .u64 ((IntKind.wrap .u64 ((b8 (ibits .andNot .u8 (v11.toNat : Int) 128)).toNat : Int)) * 2 ^ min (IntKind.wrap .i64 (7 * 0) : Int).toNat 64)))), (4, i64 (IntKind.wrap .i64 (0 + 1)))]) (by kernel_rfl) ?_
    refine AT_goto ?_
    refine athen_g ?_
    refine scope_g ?_
    exact ⟨k, .inl (⟨rfl, (by omega), ibits .or .u64 0 (IntKind.wrap .u64 ((IntKind.wrap .u64 ((b8 (ibits .andNot .u8 (v11.toNat : Int) 128)).toNat : Int)) * 2 ^ min (IntKind.wrap .i64 (7 * 0) : Int).toNat 64)), IntKind.wrap .i64 (0 + 1), v12.left, v12.bad, (le_rf (by kernel_rfl)), h, hh⟩)⟩
  clear h hh
  intro l_ k' sl_ S_ hJ_
  rcases hJ_ with ⟨rfl, hk_, x9, x10, x11, x12, hl_, h, hh⟩ | ⟨rfl, hk_, x13, x14, hl_, h, hh⟩
  · refine ⟨_, rfl, AT_weaken hl_ ?_⟩
    obtain _ | k2 := k'
    · cases h
    rw [varint_Get_s0.g0] at h
    refine AT_seq ?_
    refine zkn ?_
    refine zsr ?_
    refine seg 1 [0, 3, 4, 6] [(6, .ob b0 0)] [1, 2] (by kernel_rfl) (by kernel_rfl) ?_
    obtain ⟨⟨v14, v15⟩, ht10, h⟩ := bs h
    simp only at h
    refine AOps_callR _ [.ob b0 0] (tl_get rfl) rfl rfl rfl rfl Try.func37 (by decide) rfl ((.cons (D.le.refl _) (.nil))) (cursor_Cursor_Byte_s0.ok _ (⟨x11, x12⟩ : Cursor) _ _ b0 ((hh.have_ [0] (by decide) (by kernel_rfl)).own) _ _ ht10) ?_
    rintro _ S_ ⟨rfl, h2_⟩
    replace hh := hh.call [0] [] (by decide) (by kernel_rfl) h2_ rfl
    refine fg [0, 3, 4, 7] ?_
    refine seg 1 [0, 3, 4, 5] [(5, u8 (v14.toNat : Int))] [] (by kernel_rfl) (by kernel_rfl) ?_
    refine zn ?_
    refine AT_seq ?_
    refine zsr ?_
    refine seg 1 [0, 3, 4, 5, 8] [(8, .ob b0 0)] [1] (by kernel_rfl) (by kernel_rfl) ?_
    obtain ⟨v16, ht11, h⟩ := bs h
    refine AOps_callR _ [.ob b0 0] (tl_get rfl) rfl rfl rfl rfl Try.func23 (by decide) rfl ((.cons (D.le.refl _) (.nil))) (cursor_Cursor_Bad_s0.ok v15 _ _ b0 ((hh.have_ [0] (by decide) (by kernel_rfl)).own) _ ht11) ?_
    rintro _ S_ ⟨rfl, h2_⟩
    replace hh := hh.call [0] [] (by decide) (by kernel_rfl) h2_ rfl
    refine fg [0, 3, 4, 5, 9] ?_
    refine zn ?_
    refine AT_condS v16 (by kernel_rfl) (fun hc21 => ?_) (fun hc21 => ?_)
    · rw [if_t hc21] at h
      refine zsr ?_
      refine seg 1 [2] [(2, u64 0)] [] (by kernel_rfl) (by kernel_rfl) ?_
      refine zn ?_
      refine AT_ret ?_
      refine athen_r ?_
      refine scope_r ?_
      have e0_ : 0 = r0 := congrArg (fun p_ => p_.1) (Option.some.inj h)
      have e1_ : v15 = c0_ := congrArg (fun p_ => p_.2) (Option.some.inj h)
      subst e0_
      subst e1_
      exact ⟨[u64 0], _, S_, (.of (by kernel_rfl)), D.le.refl _, Store.le.refl _, rfl, hh⟩
    rw [if_f hc21] at h
    refine zkn ?_
    refine AT_cutM 0x39 (fun sl_ S_ => ∃ (k_ : Nat), k_ ≤ k2 ∧ LeL sl_ (mkS 39 [(0, .ob b0 0), (3, u64 x9), (4, i64 x10), (5, u8 (v14.toNat : Int))]) ∧ varint_Get_s0.j0 k_ x9 x10 v14 v15 = some (r0, c0_) ∧ Own S B S_ [.o b0 (.cells 77 [.sl 1 (v15.left.map eB) none, bo v15.bad])]) ?_ ?_
    · refine AT_seq ?_
      refine AT_region ?_
      refine seg 3 [0, 3, 4, 5, 12] [(12, bo (decide (x10 > 0)))] [3, 4, 5, 6, 7, 8, 9, 10, 11, 12, 13] (by kernel_rfl) (by kernel_rfl) ?_
      refine casedR 12 (decide (x10 > 0)) (by kernel_rfl) (fun hc28 => ?_) (fun hc28 => ?_)
      · rw [if_f hc28] at h
        refine seg 7 [0, 3, 4, 5, 16, 19] [(16, bo false), (19, bo (x10 == 9))] [10, 11, 12, 13] (by kernel_rfl) (by kernel_rfl) ?_
        refine casedR 19 (x10 == 9) (by kernel_rfl) (fun hc32 => ?_) (fun hc32 => ?_)
        · rw [if_f hc32] at h
          refine seg 4 [0, 3, 4, 5, 23] [(23, bo false)] [] (by kernel_rfl) (by kernel_rfl) ?_
          refine zn ?_
          refine AT_cond_f (by kernel_rfl) ?_
          refine zkn ?_
          exact ⟨k2, (by omega), (le_rf (by kernel_rfl)), h, hh⟩
        rw [if_t hc32] at h
        refine seg 4 [0, 3, 4, 5, 23] [(23, bo (decide ((v14.toNat : Int) > 1)))] [] (by kernel_rfl) (by kernel_rfl) ?_
        refine zn ?_
        refine AT_condR (decide ((v14.toNat : Int) > 1)) (by kernel_rfl) (fun hc33 => ?_) (fun hc33 => ?_)
        · rw [if_f hc33] at h
          refine zkn ?_
          exact ⟨k2, (by omega), (le_rf (by kernel_rfl)), h, hh⟩
        rw [if_t hc33] at h
        refine AT_forget 0x1 (mkS 39 [(0, .ob b0 0)]) (by kernel_rfl) ?_
        refine AT_goto ?_
        refine athen_g ?_
        refine scope_g ?_
        exact ⟨k2, (by omega), .inr ((⟨rfl, (by omega), v15.left, v15.bad, (le_rf (by kernel_rfl)), h, hh⟩))⟩
      rw [if_t hc28] at h
      refine seg 4 [0, 3, 4, 5, 16] [(16, bo ((v14.toNat : Int) == 0))] [7, 8, 9, 10, 11, 12, 13] (by kernel_rfl) (by kernel_rfl) ?_
      refine cased 16 ((v14.toNat : Int) == 0) (by kernel_rfl) (fun hc29 => ?_) (fun hc29 => ?_)
      · rw [if_t hc29] at h
        refine seg 7 [0, 3, 4, 5, 23] [(23, bo true)] [] (by kernel_rfl) (by kernel_rfl) ?_
        refine zn ?_
        refine AT_cond_t (by kernel_rfl) ?_
        refine AT_forget 0x1 (mkS 39 [(0, .ob b0 0)]) (by kernel_rfl) ?_
        refine AT_goto ?_
        refine athen_g ?_
        refine scope_g ?_
        exact ⟨k2, (by omega), .inr ((⟨rfl, (by omega), v15.left, v15.bad, (le_rf (by kernel_rfl)), h, hh⟩))⟩
      rw [if_f hc29] at h
      refine seg 3 [0, 3, 4, 5, 16, 19] [(19, bo (x10 == 9))] [10, 11, 12, 13] (by kernel_rfl) (by kernel_rfl) ?_
      refine casedR 19 (x10 == 9) (by kernel_rfl) (fun hc30 => ?_) (fun hc30 => ?_)
      · rw [if_f hc30] at h
        refine AOps_seg 4 0x800039 (mkS 39 [(0, .ob b0 0), (3, u64 x9), (4, i64 x10), (5, u8 (v14.toNat : Int)), (23, bo false)]) none [] (by kernel_rfl) (by kernel_rfl) trivial ?_
        refine zn ?_
        refine AT_cond_f (by kernel_rfl) ?_
        refine zkn ?_
        exact ⟨k2, (by omega), (le_rf (by kernel_rfl)), h, hh⟩
      rw [if_t hc30] at h
      refine AOps_seg 4 0x800039 (mkS 39 [(0, .ob b0 0), (3, u64 x9), (4, i64 x10), (5, u8 (v14.toNat : Int)), (23, bo (decide ((v14.toNat : Int) > 1)))]) none [] (by kernel_rfl) (by kernel_rfl) trivial ?_
      refine zn ?_
      refine AT_condR (decide ((v14.toNat : Int) > 1)) (by kernel_rfl) (fun hc31 => ?_) (fun hc31 => ?_)
      · rw [if_f hc31] at h
        refine zkn ?_
        exact ⟨k2, (by omega), (le_rf (by kernel_rfl)), h, hh⟩
      rw [if_t hc31] at h
      refine AT_forget 0x1 (mkS 39 [(0, .ob b0 0)]) (by kernel_rfl) ?_
      refine AT_goto ?_
      refine athen_g ?_
      refine scope_g ?_
      exact ⟨k2, (by omega), .inr ((⟨rfl, (by omega), v15.left, v15.bad, (le_rf (by kernel_rfl)), h, hh⟩))⟩
    clear h hh
    rintro sl_ S_ ⟨k', hk_, hl_, h, hh⟩
    refine AT_weaken hl_ ?_
    obtain _ | k3 := k'
    · cases h
    rw [varint_Get_s0.j0] at h
    refine zsr ?_
    refine seg 3 [0, 4, 5, 24, 26] [(24, u64 x9), (26, u8 (ibits .andNot .u8 (v14.toNat : Int) 128))] [3, 4, 5, 6, 7, 8] (by kernel_rfl) (by kernel_rfl) ?_
    refine tod 26 (u8 (ibits .andNot .u8 (v14.toNat : Int) 128)) (u8 ((b8 (ibits .andNot .u8 (v14.toNat : Int) 128)).toNat : Int)) (by kernel_rfl) (by rw [show ((b8 (ibits .andNot .u8 (v14.toNat : Int) 128)).toNat : Int) = ibits .andNot .u8 (v14.toNat : Int) 128 from b8_bits _ _ _]) ?_
    refine seg 1 [0, 4, 5, 24, 27] [(27, u64 (IntKind.wrap .u64 ((b8 (ibits .andNot .u8 (v14.toNat : Int) 128)).toNat : Int)))] [4, 5, 6, 7, 8] (by kernel_rfl) (by kernel_rfl) ?_
    obtain ⟨hi10, h⟩ := is h
    refine segc 3 [0, 4, 5, 24, 30] [(30, u64 (IntKind.wrap .u64 ((IntKind.wrap .u64 ((b8 (ibits .andNot .u8 (v14.toNat : Int) 128)).toNat : Int)) * 2 ^ min (IntKind.wrap .i64 (7 * x10) : Int).toNat 64)))] (0 ≤ (IntKind.wrap .i64 (7 * x10))) [7, 8] (by kernel_rfl) (by kernel_rfl) (hi10) ?_
    refine seg 1 [0, 4, 5, 31] [(31, u64 (ibits .or .u64 x9 (IntKind.wrap .u64 ((IntKind.wrap .u64 ((b8 (ibits .andNot .u8 (v14.toNat : Int) 128)).toNat : Int)) * 2 ^ min (IntKind.wrap .i64 (7 * x10) : Int).toNat 64))))] [8] (by kernel_rfl) (by kernel_rfl) ?_
    refine seg 1 [0, 3, 4, 5] [(3, u64 (ibits .or .u64 x9 (IntKind.wrap .u64 ((IntKind.wrap .u64 ((b8 (ibits .andNot .u8 (v14.toNat : Int) 128)).toNat : Int)) * 2 ^ min (IntKind.wrap .i64 (7 * x10) : Int).toNat 64))))] [] (by kernel_rfl) (by kernel_rfl) ?_
    refine zn ?_
    refine AT_seq ?_
    refine zsr ?_
    refine seg 2 [0, 3, 4, 33] [(33, bo (decide ((v14.toNat : Int) < 128)))] [] (by kernel_rfl) (by kernel_rfl) ?_
    refine zn ?_
    refine AT_condS (decide ((v14.toNat : Int) < 128)) (by kernel_rfl) (fun hc34 => ?_) (fun hc34 => ?_)
    · rw [if_t hc34] at h
      refine zsr ?_
      refine seg 2 [2] [(2, u64 (ibits .or .u64 x9 (IntKind.wrap .u64 ((IntKind.wrap .u64 ((b8 (ibits .andNot .u8 (v14.toNat : Int) 128)).toNat : Int)) * 2 ^ min (IntKind.wrap .i64 (7 * x10) : Int).toNat 64))))] [] (by kernel_rfl) (by kernel_rfl) ?_
      refine zn ?_
      refine AT_ret ?_
      refine athen_r ?_
      refine scope_r ?_
      have e0_ : ibits .or .u64 x9 (IntKind.wrap .u64 ((IntKind.wrap .u64 ((b8 (ibits .andNot .u8 (v14.toNat : Int) 128)).toNat : Int)) * 2 ^ min (IntKind.wrap .i64 (7 * x10) : Int).toNat 64)) = r0 := congrArg (fun p_ => p_.1) (Option.some.inj h)
      have e1_ : v15 = c0_ := congrArg (fun p_ => p_.2) (Option.some.inj h)
      subst e0_
      subst e1_
      exact ⟨[u64 (ibits .or .u64 x9 (IntKind.wrap .u64 ((IntKind.wrap .u64 ((b8 (ibits .andNot .u8 (v14.toNat : Int) 128)).toNat : Int)) * 2 ^ min (IntKind.wrap .i64 (7 * x10) : Int).toNat 64)))], _, S_, (.of (by kernel_rfl)), D.le.refl _, Store.le.refl _, rfl, hh⟩
    rw [if_f hc34] at h
    refine zkn ?_
    refine zsr ?_
    refine seg 3 [0, 3, 4] [(4, i64 (IntKind.wrap .i64 (x10 + 1)))] [] (by kernel_rfl) (by kernel_rfl) ?_
    refine zn ?_
    refine AT_seq ?_
    refine AT_forget 0x19 (mkS 39 [(0, .ob b0 0), (3, u64 (ibits .or .u64 x9 (IntKind.wrap .u64 ((IntKind.wrap .u64 ((b8 (ibits .andNot .u8 (v14.toNat : Int) 128)).toNat : Int)) * 2 ^ min (IntKind.wrap .i64 (7 * x10) : Int).toNat 64)))), (4, i64 (IntKind.wrap .i64 (x10 + 1)))]) (by kernel_rfl) ?_
    refine AT_goto ?_
    refine athen_g ?_
    refine scope_g ?_
    exact ⟨k3, (by omega), .inl (⟨rfl, (by omega), ibits .or .u64 x9 (IntKind.wrap .u64 ((IntKind.wrap .u64 ((b8 (ibits .andNot .u8 (v14.toNat : Int) 128)).toNat : Int)) * 2 ^ min (IntKind.wrap .i64 (7 * x10) : Int).toNat 64)), IntKind.wrap .i64 (x10 + 1), v15.left, v15.bad, (le_rf (by kernel_rfl)), h, hh⟩)⟩
  refine ⟨_, rfl, AT_weaken hl_ ?_⟩
  obtain _ | k4 := k'
  · cases h
  rw [varint_Get_s0.g1] at h
  refine AT_seq ?_
  refine zkn ?_
  refine zsr ?_
  refine seg 1 [37] [(37, .ob b0 0)] [1] (by kernel_rfl) (by kernel_rfl) ?_
  obtain ⟨v17, ht12, h⟩ := bs h
  refine AOps_callR _ [.ob b0 0] (tl_get rfl) rfl rfl rfl rfl Try.func35 (by decide) rfl ((.cons (D.le.refl _) (.nil))) (cursor_Cursor_Fail_s0.ok (⟨x13, x14⟩ : Cursor) _ _ b0 ((hh.have_ [0] (by decide) (by kernel_rfl)).own) _ ht12) ?_
  rintro _ S_ ⟨rfl, h2_⟩
  replace hh := hh.call [0] [] (by decide) (by kernel_rfl) h2_ rfl
  refine fg [38] ?_
  refine znsr ?_
  refine seg 1 [2] [(2, u64 0)] [] (by kernel_rfl) (by kernel_rfl) ?_
  refine zn ?_
  refine AT_ret ?_
  refine scope_r ?_
  have e0_ : 0 = r0 := congrArg (fun p_ => p_.1) (Option.some.inj h)
  have e1_ : v17 = c0_ := congrArg (fun p_ => p_.2) (Option.some.inj h)
  subst e0_
  subst e1_
  exact ⟨[u64 0], _, S_, (.of (by kernel_rfl)), D.le.refl _, Store.le.refl _, rfl, hh⟩
def varint_Len_s0.j0 : Nat → Int → (List UInt8) → Bool → Option (Int × Cursor)
  | 0, _, _, _ => none
  | k + 1, v1, x1, x2 => (cursor_Cursor_Bad_s0.f (⟨x1, x2⟩ : Cursor)).bind fun v7 => (if v7 = true then (some (0, (⟨x1, x2⟩ : Cursor))) else (some (IntKind.wrap .i64 v1, (⟨x1, x2⟩ : Cursor))))
def varint_Len_s0.f (k : Nat) (a0 : Cursor) (a1 : Int) : Option (Int × Cursor) := (varint_Get_s0.f k a0).bind fun q_v1 => (if (decide (a1 < 0)) = true then ((cursor_Cursor_Fail_s0.f q_v1.2).bind fun v5 => (varint_Len_s0.j0 k q_v1.1 v5.left v5.bad)) else (if (decide (q_v1.1 > (IntKind.wrap .u64 a1))) = true then ((cursor_Cursor_Fail_s0.f q_v1.2).bind fun v6 => (varint_Len_s0.j0 k q_v1.1 v6.left v6.bad)) else (varint_Len_s0.j0 k q_v1.1 q_v1.2.left q_v1.2.bad)))
theorem varint_Len_s0.mono_l : ∀ k, (∀ y0 y1 y2, LeO (varint_Len_s0.j0 k y0 y1 y2) (varint_Len_s0.j0 (k + 1) y0 y1 y2))
  | 0 => fun _ _ _ r h => (by simp only [varint_Len_s0.j0] at h; cases h)
  | k + 1 => by
    have ih := varint_Len_s0.mono_l k
    · intro y0 y1 y2
      rw [varint_Len_s0.j0, varint_Len_s0.j0]
      repeat' first
        | exact LeO.refl _
        | exact LeO.none _
        | exact ih _ _ _
        | exact varint_Get_s0.mono _ _
        | refine LeO.ite ?_ ?_
        | refine LeO.bind ?_ (fun _ => ?_)
theorem varint_Len_s0.mono (k : Nat) (a0 : Cursor) (a1 : Int) : LeO (varint_Len_s0.f k a0 a1) (varint_Len_s0.f (k + 1) a0 a1) := by
  unfold varint_Len_s0.f
  repeat' first
    | exact LeO.refl _
    | exact LeO.none _
    | exact (varint_Len_s0.mono_l k) _ _ _
    | exact varint_Get_s0.mono _ _
    | refine LeO.ite ?_ ?_
    | refine LeO.bind ?_ (fun _ => ?_)
theorem varint_Len_s0.ok (k : Nat) (a0 : Cursor) (a1 : Int) (S : Store) (B : List (Bool × Nat)) (b0 : Nat) (hh : Own S B S [.o b0 (.cells 77 [.sl 1 (a0.left.map eB) none, bo a0.bad])]) (r0 : Int) (c0_ : Cursor) (h : varint_Len_s0.f k a0 a1 = some (r0, c0_)) : ACalls Try.prog 21 [.ob b0 0, i64 a1] S (fun r_ S_ => r_ = i64 r0 ∧ Own S B S_ [.o b0 (.cells 77 [.sl 1 (c0_.left.map eB) none, bo c0_.bad])]) := by
  unfold varint_Len_s0.f at h
  refine acalls_of Try.func21 rfl ?_
  refine AT_forget 0x3 (mkS 22 [(0, .ob b0 0), (1, i64 a1)]) (by kernel_rfl) ?_
  refine zsr ?_
  refine seg 1 [0, 1] [] [] (by kernel_rfl) (by kernel_rfl) ?_
  refine znsr ?_
  refine seg 1 [0, 1, 6] [(6, .ob b0 0)] [1, 2] (by kernel_rfl) (by kernel_rfl) ?_
  obtain ⟨⟨v1, v2⟩, ht1, h⟩ := bs h
  simp only at h
  refine AOps_callR _ [.ob b0 0] (tl_get rfl) rfl rfl rfl rfl Try.func36 (by decide) rfl ((.cons (D.le.refl _) (.nil))) (varint_Get_s0.ok _ a0 _ _ b0 ((hh.have_ [0] (by decide) (by kernel_rfl)).own) _ _ ht1) ?_
  rintro _ S_ ⟨rfl, h2_⟩
  replace hh := hh.call [0] [] (by decide) (by kernel_rfl) h2_ rfl
  refine fg [0, 1, 7] ?_
  refine seg 1 [0, 1, 5] [(5, u64 v1)] [] (by kernel_rfl) (by kernel_rfl) ?_
  refine zn ?_
  refine AT_cutM 0x21 (fun sl_ S_ => ∃ (k_ : Nat), k_ ≤ k ∧ ∃ (x1 : (List UInt8)), ∃ (x2 : Bool), LeL sl_ (mkS 22 [(0, .ob b0 0), (5, u64 v1)]) ∧ varint_Len_s0.j0 k_ v1 x1 x2 = some (r0, c0_) ∧ Own S B S_ [.o b0 (.cells 77 [.sl 1 (x1.map eB) none, bo x2])]) ?_ ?_
  · refine AT_seq ?_
    refine AT_region ?_
    refine seg 3 [0, 1, 5, 10] [(10, bo (decide (a1 < 0)))] [3, 4, 5, 6, 7] (by kernel_rfl) (by kernel_rfl) ?_
    refine cased 10 (decide (a1 < 0)) (by kernel_rfl) (fun hc3 => ?_) (fun hc3 => ?_)
    · rw [if_t hc3] at h
      refine seg 5 [0, 5, 15] [(15, bo true)] [] (by kernel_rfl) (by kernel_rfl) ?_
      refine zn ?_
      refine AT_cond_t (by kernel_rfl) ?_
      refine AT_region ?_
      refine seg 1 [0, 5, 16] [(16, .ob b0 0)] [1] (by kernel_rfl) (by kernel_rfl) ?_
      obtain ⟨v5, ht4, h⟩ := bs h
      refine AOps_callR _ [.ob b0 0] (tl_get rfl) rfl rfl rfl rfl Try.func35 (by decide) rfl ((.cons (D.le.refl _) (.nil))) (cursor_Cursor_Fail_s0.ok v2 _ _ b0 ((hh.have_ [0] (by decide) (by kernel_rfl)).own) _ ht4) ?_
      rintro _ S_ ⟨rfl, h2_⟩
      replace hh := hh.call [0] [] (by decide) (by kernel_rfl) h2_ rfl
      refine fg [0, 5, 17] ?_
      refine zn ?_
      exact ⟨k, (by omega), v5.left, v5.bad, (le_rf (by kernel_rfl)), h, hh⟩
    rw [if_f hc3] at h
    refine seg 5 [0, 5, 15] [(15, bo (decide (v1 > (IntKind.wrap .u64 a1))))] [] (by kernel_rfl) (by kernel_rfl) ?_
    refine zn ?_
    refine AT_condR (decide (v1 > (IntKind.wrap .u64 a1))) (by kernel_rfl) (fun hc4 => ?_) (fun hc4 => ?_)
    · rw [if_f hc4] at h
      refine zkn ?_
      exact ⟨k, (by omega), v2.left, v2.bad, (le_rf (by kernel_rfl)), h, hh⟩
    rw [if_t hc4] at h
    refine AT_region ?_
    refine seg 1 [0, 5, 16] [(16, .ob b0 0)] [1] (by kernel_rfl) (by kernel_rfl) ?_
    obtain ⟨v6, ht5, h⟩ := bs h
    refine AOps_callR _ [.ob b0 0] (tl_get rfl) rfl rfl rfl rfl Try.func35 (by decide) rfl ((.cons (D.le.refl _) (.nil))) (cursor_Cursor_Fail_s0.ok v2 _ _ b0 ((hh.have_ [0] (by decide) (by kernel_rfl)).own) _ ht5) ?_
    rintro _ S_ ⟨rfl, h2_⟩
    replace hh := hh.call [0] [] (by decide) (by kernel_rfl) h2_ rfl
    refine fg [0, 5, 17] ?_
    refine zn ?_
    exact ⟨k, (by omega), v6.left, v6.bad, (le_rf (by kernel_rfl)), h, hh⟩
  clear h hh
  rintro sl_ S_ ⟨k', hk_, x1, x2, hl_, h, hh⟩
  refine AT_weaken hl_ ?_
  obtain _ | k1 := k'
  · cases h
  rw [varint_Len_s0.j0] at h
  refine AT_seq ?_
  refine zsr ?_
  refine seg 1 [5, 18] [(18, .ob b0 0)] [1] (by kernel_rfl) (by kernel_rfl) ?_
  obtain ⟨v7, ht6, h⟩ := bs h
  refine AOps_callR _ [.ob b0 0] (tl_get rfl) rfl rfl rfl rfl Try.func23 (by decide) rfl ((.cons (D.le.refl _) (.nil))) (cursor_Cursor_Bad_s0.ok (⟨x1, x2⟩ : Cursor) _ _ b0 ((hh.have_ [0] (by decide) (by kernel_rfl)).own) _ ht6) ?_
  rintro _ S_ ⟨rfl, h2_⟩
  replace hh := hh.call [0] [] (by decide) (by kernel_rfl) h2_ rfl
  refine fg [5, 19] ?_
  refine zn ?_
  refine AT_condS v7 (by kernel_rfl) (fun hc5 => ?_) (fun hc5 => ?_)
  · rw [if_t hc5] at h
    refine zsr ?_
    refine seg 1 [4] [(4, i64 0)] [] (by kernel_rfl) (by kernel_rfl) ?_
    refine zn ?_
    refine AT_ret ?_
    refine athen_r ?_
    have e0_ : 0 = r0 := congrArg (fun p_ => p_.1) (Option.some.inj h)
    have e1_ : (⟨x1, x2⟩ : Cursor) = c0_ := congrArg (fun p_ => p_.2) (Option.some.inj h)
    subst e0_
    subst e1_
    exact ⟨[i64 0], _, S_, (.of (by kernel_rfl)), D.le.refl _, Store.le.refl _, rfl, hh⟩
  rw [if_f hc5] at h
  refine zkn ?_
  refine zsr ?_
  refine seg 3 [4] [(4, i64 (IntKind.wrap .i64 v1))] [] (by kernel_rfl) (by kernel_rfl) ?_
  refine zn ?_
  refine AT_ret ?_
  have e0_ : IntKind.wrap .i64 v1 = r0 := congrArg (fun p_ => p_.1) (Option.some.inj h)
  have e1_ : (⟨x1, x2⟩ : Cursor) = c0_ := congrArg (fun p_ => p_.2) (Option.some.inj h)
  subst e0_
  subst e1_
  exact ⟨[i64 (IntKind.wrap .i64 v1)], _, S_, (.of (by kernel_rfl)), D.le.refl _, Store.le.refl _, rfl, hh⟩
def plain_take_s0.f (k : Nat) (a0 : Cursor) (a1 : Int) : Option (Cell × Cursor) := if (a1 == 0) = true then ((cursor_Cursor_U64_s0.f k a0).bind fun q_v1 => (some ((⟨false, IntKind.wrap .i64 q_v1.1, [], (⟨0, 0⟩ : Point)⟩ : Cell), q_v1.2))) else (if (a1 == 2) = true then ((varint_Len_s0.f k a0 65536).bind fun q_v3 => ((cursor_Cursor_Take_s0.f q_v3.2 q_v3.1).bind fun q_v5 => (some ((⟨false, 0, q_v5.1, (⟨0, 0⟩ : Point)⟩ : Cell), q_v5.2)))) else (if (a1 == 3) = true then ((varint_Get_s0.f k a0).bind fun q_v7 => ((varint_Zag.f q_v7.1).bind fun v9 => ((varint_Get_s0.f k q_v7.2).bind fun q_v10 => ((varint_Zag.f q_v10.1).bind fun v12 => (some ((⟨false, 0, [], (⟨v9, v12⟩ : Point)⟩ : Cell), q_v10.2)))))) else ((varint_Get_s0.f k a0).bind fun q_v13 => ((varint_Zag.f q_v13.1).bind fun v15 => (some ((⟨false, 0, [], (⟨0, v15⟩ : Point)⟩ : Cell), q_v13.2))))))
theorem plain_take_s0.mono (k : Nat) (a0 : Cursor) (a1 : Int) : LeO (plain_take_s0.f k a0 a1) (plain_take_s0.f (k + 1) a0 a1) := by
  unfold plain_take_s0.f
  repeat' first
    | exact LeO.refl _
    | exact LeO.none _
    | exact cursor_Cursor_U64_s0.mono _ _
    | exact varint_Get_s0.mono _ _
    | exact varint_Len_s0.mono _ _ _
    | refine LeO.ite ?_ ?_
    | refine LeO.bind ?_ (fun _ => ?_)
theorem plain_take_s0.ok (k : Nat) (a0 : Cursor) (a1 : Int) (S : Store) (B : List (Bool × Nat)) (b0 : Nat) (hh : Own S B S [.o b0 (.cells 77 [.sl 1 (a0.left.map eB) none, bo a0.bad])]) (r0 : Cell) (c0_ : Cursor) (h : plain_take_s0.f k a0 a1 = some (r0, c0_)) : ACalls Try.prog 49 [.ob b0 0, i64 a1] S (fun r_ S_ => r_ = .ag (Cell.enc r0) ∧ Own S B S_ [.o b0 (.cells 77 [.sl 1 (c0_.left.map eB) none, bo c0_.bad])]) := by
  unfold plain_take_s0.f at h
  refine acalls_of Try.func49 rfl ?_
  refine AT_forget 0x3 (mkS 33 [(0, .ob b0 0), (1, i64 a1)]) (by kernel_rfl) ?_
  refine zsr ?_
  refine AOps_allocV (ds := [bo false, i64 0, str [], i64 0, i64 0]) (cs' := [bo false, i64 0, str [], i64 0, i64 0]) (tl_get rfl) rfl rfl (by kernel_rfl) (LeL.refl _) (fun S_ m1 hf_ u_ => ?_)
  replace hh := hh.obN hf_ u_
  refine fg [0, 1, 4] ?_
  refine zn ?_
  refine AT_seq ?_
  refine zsr ?_
  refine seg 1 [0, 4, 5] [(5, i64 a1)] [] (by kernel_rfl) (by kernel_rfl) ?_
  refine zn ?_
  refine AT_block ?_
  refine AT_seq ?_
  refine AT_block ?_
  refine AT_seq ?_
  refine AT_block ?_
  refine AT_seq ?_
  refine AT_block ?_
  refine AT_seq ?_
  refine AT_block ?_
  refine AT_seq ?_
  refine AT_seq ?_
  refine zsr ?_
  refine seg 2 [0, 4, 5, 6] [(6, bo (a1 == 0))] [] (by kernel_rfl) (by kernel_rfl) ?_
  refine zn ?_
  refine AT_condS (a1 == 0) (by kernel_rfl) (fun hc1 => ?_) (fun hc1 => ?_)
  · rw [if_t hc1] at h
    refine AT_exit ?_
    refine athen_e ?_
    refine athen_e ?_
    refine ablock_h ?_
    refine athen_n ?_
    refine zsr ?_
    refine seg 1 [4, 12] [(12, .ob b0 0)] [1, 2, 3, 4] (by kernel_rfl) (by kernel_rfl) ?_
    obtain ⟨⟨v1, v2⟩, ht1, h⟩ := bs h
    simp only at h
    refine AOps_callR _ [.ob b0 0] (tl_get rfl) rfl rfl rfl rfl Try.func64 (by decide) rfl ((.cons (D.le.refl _) (.nil))) (cursor_Cursor_U64_s0.ok _ a0 _ _ b0 ((hh.have_ [0] (by decide) (by kernel_rfl)).own) _ _ ht1) ?_
    rintro _ S_ ⟨rfl, h2_⟩
    replace hh := hh.call [0] [1] (by decide) (by kernel_rfl) h2_ rfl
    refine fg [4, 13] ?_
    refine seg 2 [4, 14, 15] [(14, i64 (IntKind.wrap .i64 v1)), (15, .ob m1 1)] [4] (by kernel_rfl) (by kernel_rfl) ?_
    refine AOps_putV (T := 40) (off := 1) (cs := [bo false, i64 0, str [], i64 0, i64 0]) (ds := [i64 (IntKind.wrap .i64 v1)]) (cs' := [bo false, i64 (IntKind.wrap .i64 v1), str [], i64 0, i64 0]) (tl_get rfl) rfl rfl rfl (hh.ob 1 (by kernel_rfl)) rfl (by kernel_rfl) (Nat.le_of_ble_eq_true rfl) (LeL.refl _) (fun S_ u_ => ?_)
    replace hh := hh.obS' 1 (by kernel_rfl) u_
    refine fg0 [4] ?_
    refine zn ?_
    refine AT_exit ?_
    refine ablock_o (by decide) ?_
    refine athen_e ?_
    refine ablock_o (by decide) ?_
    refine athen_e ?_
    refine ablock_o (by decide) ?_
    refine athen_e ?_
    refine ablock_h ?_
    refine athen_n ?_
    refine zsr ?_
    refine AOps_load (T := 40) (off := 0) (cs := [bo false, i64 (IntKind.wrap .i64 v1), str [], i64 0, i64 0]) (.ag [bo false, i64 (IntKind.wrap .i64 v1), str [], i64 0, i64 0]) (tl_get rfl) rfl rfl rfl (hh.ob 1 (by kernel_rfl)) (.inl ⟨by kernel_rfl, 5, by kernel_rfl, Nat.le_of_ble_eq_true rfl, by kernel_rfl⟩) ?_
    refine fg [4, 32] ?_
    refine AOps_putV (T := 40) (off := 0) (cs := [bo false, i64 (IntKind.wrap .i64 v1), str [], i64 0, i64 0]) (ds := [bo false, i64 (IntKind.wrap .i64 v1), str [], i64 0, i64 0]) (cs' := [bo false, i64 (IntKind.wrap .i64 v1), str [], i64 0, i64 0]) (tl_get rfl) rfl rfl rfl (hh.ob 1 (by kernel_rfl)) rfl (by kernel_rfl) (Nat.le_of_ble_eq_true rfl) (LeL.refl _) (fun S_ u_ => ?_)
    replace hh := hh.obS' 1 (by kernel_rfl) u_
    refine AOps_forget 0x10 (mkS 33 [(4, .ob m1 0)]) (by kernel_rfl) ?_
    refine zn ?_
    refine AT_ret ?_
    have e0_ : (⟨false, IntKind.wrap .i64 v1, [], (⟨0, 0⟩ : Point)⟩ : Cell) = r0 := congrArg (fun p_ => p_.1) (Option.some.inj h)
    have e1_ : v2 = c0_ := congrArg (fun p_ => p_.2) (Option.some.inj h)
    subst e0_
    subst e1_
    exact ⟨[.ag [bo false, i64 (IntKind.wrap .i64 v1), str [], i64 0, i64 0]], _, S_, (.ob (k := m1) (o := 0) (T := 40) (cs := [bo false, i64 (IntKind.wrap .i64 v1), str [], i64 0, i64 0]) (by kernel_rfl) (hh.ob 1 (by kernel_rfl)) (.inl ⟨by kernel_rfl, 5, by kernel_rfl, Nat.le_of_ble_eq_true rfl, by kernel_rfl⟩) (.nil)), D.le.refl _, Store.le.refl _, rfl, (hh.sub [0] (by decide) (by kernel_rfl))⟩
  rw [if_f hc1] at h
  refine zkn ?_
  refine AT_seq ?_
  refine zsr ?_
  refine seg 2 [0, 4, 5, 8] [(8, bo (a1 == 2))] [] (by kernel_rfl) (by kernel_rfl) ?_
  refine zn ?_
  refine AT_condS (a1 == 2) (by kernel_rfl) (fun hc2 => ?_) (fun hc2 => ?_)
  · rw [if_t hc2] at h
    refine AT_exit ?_
    refine athen_e ?_
    refine athen_e ?_
    refine ablock_o (by decide) ?_
    refine athen_e ?_
    refine ablock_h ?_
    refine athen_n ?_
    refine zsr ?_
    refine seg 2 [4, 16, 17] [(16, .ob b0 0), (17, .ob b0 0)] [2, 3, 4, 5, 6] (by kernel_rfl) (by kernel_rfl) ?_
    obtain ⟨⟨v3, v4⟩, ht2, h⟩ := bs h
    simp only at h
    refine AOps_callR _ [.ob b0 0, i64 65536] (tl_get rfl) rfl rfl rfl rfl Try.func21 (by decide) rfl ((.cons (D.le.refl _) (.cons (D.le.refl _) (.nil)))) (varint_Len_s0.ok _ a0 65536 _ _ b0 ((hh.have_ [0] (by decide) (by kernel_rfl)).own) _ _ ht2) ?_
    rintro _ S_ ⟨rfl, h2_⟩
    replace hh := hh.call [0] [1] (by decide) (by kernel_rfl) h2_ rfl
    refine fg [4, 16, 18] ?_
    obtain ⟨⟨v5, v6⟩, ht3, h⟩ := bs h
    simp only at h
    refine AOps_callR _ [.ob b0 0, i64 v3] (tl_get rfl) rfl rfl rfl rfl Try.func39 (by decide) rfl ((.cons (D.le.refl _) (.cons (D.le.refl _) (.nil)))) (cursor_Cursor_Take_s0.ok v4 v3 _ _ b0 ((hh.have_ [0] (by decide) (by kernel_rfl)).own) _ _ ht3) ?_
    rintro _ S_ ⟨t1, rfl, h2_⟩
    replace hh := hh.call [0] [1] (by decide) (by kernel_rfl) h2_ rfl
    refine fg [4, 19] ?_
    refine AOps_str v5 (tl_get rfl) rfl rfl rfl rfl (by kernel_rfl) rfl ?_
    refine fg [4, 20] ?_
    refine AOps_seg 1 0x300010 (mkS 33 [(4, .ob m1 0), (20, str v5), (21, .ob m1 2)]) none [6] (by kernel_rfl) (by kernel_rfl) trivial ?_
    refine AOps_putV (T := 40) (off := 2) (cs := [bo false, i64 0, str [], i64 0, i64 0]) (ds := [str v5]) (cs' := [bo false, i64 0, str v5, i64 0, i64 0]) (tl_get rfl) rfl rfl rfl (hh.ob 2 (by kernel_rfl)) rfl (by kernel_rfl) (Nat.le_of_ble_eq_true rfl) (LeL.refl _) (fun S_ u_ => ?_)
    replace hh := hh.obS' 2 (by kernel_rfl) u_
    refine fg0 [4] ?_
    refine zn ?_
    refine AT_exit ?_
    refine ablock_o (by decide) ?_
    refine athen_e ?_
    refine ablock_o (by decide) ?_
    refine athen_e ?_
    refine ablock_h ?_
    refine athen_n ?_
    refine zsr ?_
    refine AOps_load (T := 40) (off := 0) (cs := [bo false, i64 0, str v5, i64 0, i64 0]) (.ag [bo false, i64 0, str v5, i64 0, i64 0]) (tl_get rfl) rfl rfl rfl (hh.ob 2 (by kernel_rfl)) (.inl ⟨by kernel_rfl, 5, by kernel_rfl, Nat.le_of_ble_eq_true rfl, by kernel_rfl⟩) ?_
    refine fg [4, 32] ?_
    refine AOps_putV (T := 40) (off := 0) (cs := [bo false, i64 0, str v5, i64 0, i64 0]) (ds := [bo false, i64 0, str v5, i64 0, i64 0]) (cs' := [bo false, i64 0, str v5, i64 0, i64 0]) (tl_get rfl) rfl rfl rfl (hh.ob 2 (by kernel_rfl)) rfl (by kernel_rfl) (Nat.le_of_ble_eq_true rfl) (LeL.refl _) (fun S_ u_ => ?_)
    replace hh := hh.obS' 2 (by kernel_rfl) u_
    refine fg0 [4] ?_
    refine zn ?_
    refine AT_ret ?_
    have e0_ : (⟨false, 0, v5, (⟨0, 0⟩ : Point)⟩ : Cell) = r0 := congrArg (fun p_ => p_.1) (Option.some.inj h)
    have e1_ : v6 = c0_ := congrArg (fun p_ => p_.2) (Option.some.inj h)
    subst e0_
    subst e1_
    exact ⟨[.ag [bo false, i64 0, str v5, i64 0, i64 0]], _, S_, (.ob (k := m1) (o := 0) (T := 40) (cs := [bo false, i64 0, str v5, i64 0, i64 0]) (by kernel_rfl) (hh.ob 2 (by kernel_rfl)) (.inl ⟨by kernel_rfl, 5, by kernel_rfl, Nat.le_of_ble_eq_true rfl, by kernel_rfl⟩) (.nil)), D.le.refl _, Store.le.refl _, rfl, (hh.sub [0] (by decide) (by kernel_rfl))⟩
  rw [if_f hc2] at h
  refine zkn ?_
  refine zsr ?_
  refine seg 2 [0, 4, 10] [(10, bo (a1 == 3))] [] (by kernel_rfl) (by kernel_rfl) ?_
  refine zn ?_
  refine AT_condR (a1 == 3) (by kernel_rfl) (fun hc3 => ?_) (fun hc3 => ?_)
  · rw [if_f hc3] at h
    refine zkn ?_
    refine AT_exit ?_
    refine ablock_o (by decide) ?_
    refine athen_e ?_
    refine ablock_o (by decide) ?_
    refine athen_e ?_
    refine ablock_o (by decide) ?_
    refine athen_e ?_
    refine ablock_h ?_
    refine athen_n ?_
    refine zsr ?_
    refine seg 1 [4, 27] [(27, .ob b0 0)] [1, 2, 3, 4, 5] (by kernel_rfl) (by kernel_rfl) ?_
    obtain ⟨⟨v13, v14⟩, ht8, h⟩ := bs h
    simp only at h
    refine AOps_callR _ [.ob b0 0] (tl_get rfl) rfl rfl rfl rfl Try.func36 (by decide) rfl ((.cons (D.le.refl _) (.nil))) (varint_Get_s0.ok _ a0 _ _ b0 ((hh.have_ [0] (by decide) (by kernel_rfl)).own) _ _ ht8) ?_
    rintro _ S_ ⟨rfl, h2_⟩
    replace hh := hh.call [0] [1] (by decide) (by kernel_rfl) h2_ rfl
    refine fg [4, 28] ?_
    obtain ⟨v15, ht9, h⟩ := bs h
    refine AOps_callR _ [u64 v13] (tl_get rfl) rfl rfl rfl rfl Try.func65 (by decide) rfl ((.cons (D.le.refl _) (.nil))) (varint_Zag.ok v13 _  _ ht9) ?_
    rintro _ S_ ⟨rfl, h2_⟩
    replace hh := hh.call0 h2_
    refine fg [4, 29] ?_
    refine AOps_seg 2 0xa0000010 (mkS 33 [(4, .ob m1 0), (29, i64 v15), (31, .ob m1 4)]) none [5] (by kernel_rfl) (by kernel_rfl) trivial ?_
    refine AOps_putV (T := 40) (off := 4) (cs := [bo false, i64 0, str [], i64 0, i64 0]) (ds := [i64 v15]) (cs' := [bo false, i64 0, str [], i64 0, i64 v15]) (tl_get rfl) rfl rfl rfl (hh.ob 1 (by kernel_rfl)) rfl (by kernel_rfl) (Nat.le_of_ble_eq_true rfl) (LeL.refl _) (fun S_ u_ => ?_)
    replace hh := hh.obS' 1 (by kernel_rfl) u_
    refine fg0 [4] ?_
    refine zn ?_
    refine AT_exit ?_
    refine ablock_h ?_
    refine athen_n ?_
    refine zsr ?_
    refine AOps_load (T := 40) (off := 0) (cs := [bo false, i64 0, str [], i64 0, i64 v15]) (.ag [bo false, i64 0, str [], i64 0, i64 v15]) (tl_get rfl) rfl rfl rfl (hh.ob 1 (by kernel_rfl)) (.inl ⟨by kernel_rfl, 5, by kernel_rfl, Nat.le_of_ble_eq_true rfl, by kernel_rfl⟩) ?_
    refine fg [4, 32] ?_
    refine AOps_putV (T := 40) (off := 0) (cs := [bo false, i64 0, str [], i64 0, i64 v15]) (ds := [bo false, i64 0, str [], i64 0, i64 v15]) (cs' := [bo false, i64 0, str [], i64 0, i64 v15]) (tl_get rfl) rfl rfl rfl (hh.ob 1 (by kernel_rfl)) rfl (by kernel_rfl) (Nat.le_of_ble_eq_true rfl) (LeL.refl _) (fun S_ u_ => ?_)
    replace hh := hh.obS' 1 (by kernel_rfl) u_
    refine fg0 [4] ?_
    refine zn ?_
    refine AT_ret ?_
    have e0_ : (⟨false, 0, [], (⟨0, v15⟩ : Point)⟩ : Cell) = r0 := congrArg (fun p_ => p_.1) (Option.some.inj h)
    have e1_ : v14 = c0_ := congrArg (fun p_ => p_.2) (Option.some.inj h)
    subst e0_
    subst e1_
    exact ⟨[.ag [bo false, i64 0, str [], i64 0, i64 v15]], _, S_, (.ob (k := m1) (o := 0) (T := 40) (cs := [bo false, i64 0, str [], i64 0, i64 v15]) (by kernel_rfl) (hh.ob 1 (by kernel_rfl)) (.inl ⟨by kernel_rfl, 5, by kernel_rfl, Nat.le_of_ble_eq_true rfl, by kernel_rfl⟩) (.nil)), D.le.refl _, Store.le.refl _, rfl, (hh.sub [0] (by decide) (by kernel_rfl))⟩
  rw [if_t hc3] at h
  refine AT_exit ?_
  refine athen_e ?_
  refine ablock_o (by decide) ?_
  refine athen_e ?_
  refine ablock_o (by decide) ?_
  refine athen_e ?_
  refine ablock_h ?_
  refine athen_n ?_
  refine AT_region ?_
  refine seg 1 [0, 4, 22] [(22, .ob b0 0)] [1, 2, 3, 4, 5] (by kernel_rfl) (by kernel_rfl) ?_
  obtain ⟨⟨v7, v8⟩, ht4, h⟩ := bs h
  simp only at h
  refine AOps_callR _ [.ob b0 0] (tl_get rfl) rfl rfl rfl rfl Try.func36 (by decide) rfl ((.cons (D.le.refl _) (.nil))) (varint_Get_s0.ok _ a0 _ _ b0 ((hh.have_ [0] (by decide) (by kernel_rfl)).own) _ _ ht4) ?_
  rintro _ S_ ⟨rfl, h2_⟩
  replace hh := hh.call [0] [1] (by decide) (by kernel_rfl) h2_ rfl
  refine fg [0, 4, 23] ?_
  obtain ⟨v9, ht5, h⟩ := bs h
  refine AOps_callR _ [u64 v7] (tl_get rfl) rfl rfl rfl rfl Try.func65 (by decide) rfl ((.cons (D.le.refl _) (.nil))) (varint_Zag.ok v7 _  _ ht5) ?_
  rintro _ S_ ⟨rfl, h2_⟩
  replace hh := hh.call0 h2_
  refine fg [0, 4, 24] ?_
  refine AOps_seg 2 0x5000011 (mkS 33 [(0, .ob b0 0), (4, .ob m1 0), (24, i64 v9), (26, .ob m1 3)]) none [5] (by kernel_rfl) (by kernel_rfl) trivial ?_
  refine AOps_putV (T := 40) (off := 3) (cs := [bo false, i64 0, str [], i64 0, i64 0]) (ds := [i64 v9]) (cs' := [bo false, i64 0, str [], i64 v9, i64 0]) (tl_get rfl) rfl rfl rfl (hh.ob 1 (by kernel_rfl)) rfl (by kernel_rfl) (Nat.le_of_ble_eq_true rfl) (LeL.refl _) (fun S_ u_ => ?_)
  replace hh := hh.obS' 1 (by kernel_rfl) u_
  refine fg0 [0, 4] ?_
  refine AOps_end ?_
  refine ablock_n ?_
  refine athen_n ?_
  refine zsr ?_
  refine seg 1 [4, 27] [(27, .ob b0 0)] [1, 2, 3, 4, 5] (by kernel_rfl) (by kernel_rfl) ?_
  obtain ⟨⟨v10, v11⟩, ht6, h⟩ := bs h
  simp only at h
  refine AOps_callR _ [.ob b0 0] (tl_get rfl) rfl rfl rfl rfl Try.func36 (by decide) rfl ((.cons (D.le.refl _) (.nil))) (varint_Get_s0.ok _ v8 _ _ b0 ((hh.have_ [0] (by decide) (by kernel_rfl)).own) _ _ ht6) ?_
  rintro _ S_ ⟨rfl, h2_⟩
  replace hh := hh.call [0] [1] (by decide) (by kernel_rfl) h2_ rfl
  refine fg [4, 28] ?_
  obtain ⟨v12, ht7, h⟩ := bs h
  refine AOps_callR _ [u64 v10] (tl_get rfl) rfl rfl rfl rfl Try.func65 (by decide) rfl ((.cons (D.le.refl _) (.nil))) (varint_Zag.ok v10 _  _ ht7) ?_
  rintro _ S_ ⟨rfl, h2_⟩
  replace hh := hh.call0 h2_
  refine fg [4, 29] ?_
  refine seg 2 [4, 29, 31] [(31, .ob m1 4)] [5] (by kernel_rfl) (by kernel_rfl) ?_
  refine AOps_putV (T := 40) (off := 4) (cs := [bo false, i64 0, str [], i64 v9, i64 0]) (ds := [i64 v12]) (cs' := [bo false, i64 0, str [], i64 v9, i64 v12]) (tl_get rfl) rfl rfl rfl (hh.ob 1 (by kernel_rfl)) rfl (by kernel_rfl) (Nat.le_of_ble_eq_true rfl) (LeL.refl _) (fun S_ u_ => ?_)
  replace hh := hh.obS' 1 (by kernel_rfl) u_
  refine fg0 [4] ?_
  refine zn ?_
  refine AT_exit ?_
  refine ablock_h ?_
  refine athen_n ?_
  refine zsr ?_
  refine AOps_load (T := 40) (off := 0) (cs := [bo false, i64 0, str [], i64 v9, i64 v12]) (.ag [bo false, i64 0, str [], i64 v9, i64 v12]) (tl_get rfl) rfl rfl rfl (hh.ob 1 (by kernel_rfl)) (.inl ⟨by kernel_rfl, 5, by kernel_rfl, Nat.le_of_ble_eq_true rfl, by kernel_rfl⟩) ?_
  refine fg [4, 32] ?_
  refine AOps_putV (T := 40) (off := 0) (cs := [bo false, i64 0, str [], i64 v9, i64 v12]) (ds := [bo false, i64 0, str [], i64 v9, i64 v12]) (cs' := [bo false, i64 0, str [], i64 v9, i64 v12]) (tl_get rfl) rfl rfl rfl (hh.ob 1 (by kernel_rfl)) rfl (by kernel_rfl) (Nat.le_of_ble_eq_true rfl) (LeL.refl _) (fun S_ u_ => ?_)
  replace hh := hh.obS' 1 (by kernel_rfl) u_
  refine fg0 [4] ?_
  refine zn ?_
  refine AT_ret ?_
  have e0_ : (⟨false, 0, [], (⟨v9, v12⟩ : Point)⟩ : Cell) = r0 := congrArg (fun p_ => p_.1) (Option.some.inj h)
  have e1_ : v11 = c0_ := congrArg (fun p_ => p_.2) (Option.some.inj h)
  subst e0_
  subst e1_
  exact ⟨[.ag [bo false, i64 0, str [], i64 v9, i64 v12]], _, S_, (.ob (k := m1) (o := 0) (T := 40) (cs := [bo false, i64 0, str [], i64 v9, i64 v12]) (by kernel_rfl) (hh.ob 1 (by kernel_rfl)) (.inl ⟨by kernel_rfl, 5, by kernel_rfl, Nat.le_of_ble_eq_true rfl, by kernel_rfl⟩) (.nil)), D.le.refl _, Store.le.refl _, rfl, (hh.sub [0] (by decide) (by kernel_rfl))⟩
end Go.Proofs.Ytfaojkajlpojlaa.Abs
