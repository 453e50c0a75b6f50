/- What functions of the program compute, each with the proof that it does (printed by wip/gen/all2.py). -/
import Derived.Test.YtfaojkajlpojlaaV8
import Derived.KernelRfl
namespace Go.Proofs.Ytfaojkajlpojlaa.Abs
open Go
set_option maxRecDepth 100000
def plain_Decode.l0 : Nat → Int → Int → (List Cell) → Int → (List UInt8) → Bool → Option ((List Cell) × Bool)
  | 0, _, _, _, _, _, _ => none
  | k + 1, a0, a2, x3, x4, x5, x6 => if (decide (x4 < a2)) = true then ((cursor_Cursor_Bad_s0.f (⟨x5, x6⟩ : Cursor)).bind fun v19 => (if (!v19) = true then ((plain_take_s0.f k (⟨x5, x6⟩ : Cursor) a0).bind fun q_v20 => (if (x3.length + 1) * 48 ≤ 140737488355328 then (plain_Decode.l0 k a0 a2 (x3 ++ ([q_v20.1] : List Cell)) (IntKind.wrap .i64 (x4 + 1)) q_v20.2.left q_v20.2.bad) else none)) else ((cursor_Cursor_End_s0.f (⟨x5, x6⟩ : Cursor)).bind fun v22 => (if (!v22) = true then (some (([] : List Cell), false)) else ((plain_right.f k a0 x3).bind fun v23 => (if (!v23) = true then (some (([] : List Cell), false)) else (some (x3, true)))))))) else ((cursor_Cursor_End_s0.f (⟨x5, x6⟩ : Cursor)).bind fun v24 => (if (!v24) = true then (some (([] : List Cell), false)) else ((plain_right.f k a0 x3).bind fun v25 => (if (!v25) = true then (some (([] : List Cell), false)) else (some (x3, true))))))
def plain_Decode.f (k : Nat) (a0 : Int) (a1 : (List UInt8)) (a2 : Int) : Option ((List Cell) × Bool) := if (a0 == 1) = true then ((plain_bools.f k a1 a2).bind fun q_v3 => (some (q_v3.1, q_v3.2))) else (if (decide (a2 < 0)) = true then (some (([] : List Cell), false)) else (if (decide (a2 > 65536)) = true then (some (([] : List Cell), false)) else ((slices_Clone_byte.f a1).bind fun v5 => (plain_Decode.l0 k a0 a2 ([] : List Cell) 0 v5 false))))
theorem plain_Decode.mono_l : ∀ k, (∀ y0 y1 y2 y3 y4 y5, LeO (plain_Decode.l0 k y0 y1 y2 y3 y4 y5) (plain_Decode.l0 (k + 1) y0 y1 y2 y3 y4 y5))
  | 0 => fun _ _ _ _ _ _ r h => (by simp only [plain_Decode.l0] at h; cases h)
  | k + 1 => by
    have ih := plain_Decode.mono_l k
    · intro y0 y1 y2 y3 y4 y5
      rw [plain_Decode.l0, plain_Decode.l0]
      repeat' first
        | exact LeO.refl _
        | exact LeO.none _
        | exact ih _ _ _ _ _ _
        | exact plain_bools.mono _ _ _
        | exact plain_right.mono _ _ _
        | exact plain_take_s0.mono _ _ _
        | refine LeO.ite ?_ ?_
        | refine LeO.bind ?_ (fun _ => ?_)
theorem plain_Decode.mono (k : Nat) (a0 : Int) (a1 : (List UInt8)) (a2 : Int) : LeO (plain_Decode.f k a0 a1 a2) (plain_Decode.f (k + 1) a0 a1 a2) := by
  unfold plain_Decode.f
  repeat' first
    | exact LeO.refl _
    | exact LeO.none _
    | exact (plain_Decode.mono_l k) _ _ _ _ _ _
    | exact plain_bools.mono _ _ _
    | exact plain_right.mono _ _ _
    | exact plain_take_s0.mono _ _ _
    | refine LeO.ite ?_ ?_
    | refine LeO.bind ?_ (fun _ => ?_)
theorem plain_Decode.ok (k : Nat) (a0 : Int) (a1 : (List UInt8)) (a2 : Int) (S : Store) (r0 : (List Cell)) (r1 : Bool) (h : plain_Decode.f k a0 a1 a2 = some (r0, r1)) : ACalls Try.prog 38 [i64 a0, .sl 1 (a1.map eB) none, i64 a2] S (fun r_ S_ => ∃ (u0 : Nat), r_ = .tup [.sl 5 (r0.map Cell.enc) (some u0), bo r1] ∧ Own S [] S_ [.t u0 (r0).length 5]) := by
  unfold plain_Decode.f at h
  refine acalls_of Try.func38 rfl ?_
  have hh := Own.nil (S := S)
  refine AT_forget 0x7 (mkS 54 [(0, i64 a0), (1, .sl 1 (a1.map eB) none), (2, i64 a2)]) (by kernel_rfl) ?_
  refine zsr ?_
  refine seg 2 [0, 1, 2] [] [] (by kernel_rfl) (by kernel_rfl) ?_
  refine zn ?_
  refine AT_seq ?_
  refine AT_block ?_
  refine zsr ?_
  refine seg 3 [0, 1, 2, 11] [(11, bo (a0 == 1))] [] (by kernel_rfl) (by kernel_rfl) ?_
  refine zn ?_
  refine AT_condS (a0 == 1) (by kernel_rfl) (fun hc4 => ?_) (fun hc4 => ?_)
  · rw [if_t hc4] at h
    refine zsr ?_
    refine seg 2 [14, 15] [(14, .sl 1 (a1.map eB) none), (15, i64 a2)] [2, 3, 4, 5, 6] (by kernel_rfl) (by kernel_rfl) ?_
    obtain ⟨⟨v3, v4⟩, ht2, h⟩ := bs h
    simp only at h
    refine AOps_callR _ [.sl 1 (a1.map eB) none, i64 a2] (tl_get rfl) rfl rfl rfl rfl Try.func48 (by decide) rfl ((.cons (D.le.refl _) (.cons (D.le.refl _) (.nil)))) (plain_bools.ok _ a1 a2 _  _ _ ht2) ?_
    rintro _ S_ ⟨t4, rfl, h2_⟩
    replace hh := hh.calln h2_
    refine fg [16] ?_
    refine seg 4 [6, 7] [(6, .sl 5 (v3.map Cell.enc) (some t4)), (7, bo v4)] [] (by kernel_rfl) (by kernel_rfl) ?_
    refine zn ?_
    refine AT_ret ?_
    refine ablock_r ?_
    refine athen_r ?_
    have e0_ : v3 = r0 := congrArg (fun p_ => p_.1) (Option.some.inj h)
    have e1_ : v4 = r1 := congrArg (fun p_ => p_.2) (Option.some.inj h)
    subst e0_
    subst e1_
    exact ⟨[.sl 5 (v3.map Cell.enc) (some t4), bo v4], _, S_, (.of (by kernel_rfl)), D.le.refl _, Store.le.refl _, t4, rfl, hh⟩
  rw [if_f hc4] at h
  refine zsr ?_
  refine seg 3 [0, 1, 2, 22] [(22, bo (decide (a2 < 0)))] [3, 4, 5, 6] (by kernel_rfl) (by kernel_rfl) ?_
  refine cased 22 (decide (a2 < 0)) (by kernel_rfl) (fun hc5 => ?_) (fun hc5 => ?_)
  · rw [if_t hc5] at h
    refine seg 4 [0, 1, 2, 19] [(19, bo true)] [] (by kernel_rfl) (by kernel_rfl) ?_
    refine zn ?_
    refine AT_cond_t (by kernel_rfl) ?_
    refine zsr ?_
    refine seg 2 [6, 7] [(6, nilS), (7, bo false)] [] (by kernel_rfl) (by kernel_rfl) ?_
    refine zn ?_
    refine AT_nilU 6 5 (fun tk_ => mkS 54 [(6, .sl 5 [] (some tk_)), (7, bo false)]) (by kernel_rfl) (fun tk_ => by kernel_rfl) (fun S_ t5 hf_ u_ => ?_)
    replace hh := hh.tkN' hf_ u_ (n := (([] : List Cell)).length) (by first | rfl | (simp [bytesD_len]; done) | (simp [bytesD_len]; omega))
    refine AT_ret ?_
    refine ablock_r ?_
    refine athen_r ?_
    have e0_ : ([] : List Cell) = r0 := congrArg (fun p_ => p_.1) (Option.some.inj h)
    have e1_ : false = r1 := congrArg (fun p_ => p_.2) (Option.some.inj h)
    subst e0_
    subst e1_
    exact ⟨[.sl 5 [] (some t5), bo false], _, S_, (.of (by kernel_rfl)), D.le.refl _, Store.le.refl _, t5, rfl, hh⟩
  rw [if_f hc5] at h
  refine seg 4 [0, 1, 2, 19] [(19, bo (decide (a2 > 65536)))] [] (by kernel_rfl) (by kernel_rfl) ?_
  refine zn ?_
  refine AT_condS (decide (a2 > 65536)) (by kernel_rfl) (fun hc6 => ?_) (fun hc6 => ?_)
  · rw [if_t hc6] at h
    refine zsr ?_
    refine seg 2 [6, 7] [(6, nilS), (7, bo false)] [] (by kernel_rfl) (by kernel_rfl) ?_
    refine zn ?_
    refine AT_nilU 6 5 (fun tk_ => mkS 54 [(6, .sl 5 [] (some tk_)), (7, bo false)]) (by kernel_rfl) (fun tk_ => by kernel_rfl) (fun S_ t6 hf_ u_ => ?_)
    replace hh := hh.tkN' hf_ u_ (n := (([] : List Cell)).length) (by first | rfl | (simp [bytesD_len]; done) | (simp [bytesD_len]; omega))
    refine AT_ret ?_
    refine ablock_r ?_
    refine athen_r ?_
    have e0_ : ([] : List Cell) = r0 := congrArg (fun p_ => p_.1) (Option.some.inj h)
    have e1_ : false = r1 := congrArg (fun p_ => p_.2) (Option.some.inj h)
    subst e0_
    subst e1_
    exact ⟨[.sl 5 [] (some t6), bo false], _, S_, (.of (by kernel_rfl)), D.le.refl _, Store.le.refl _, t6, rfl, hh⟩
  rw [if_f hc6] at h
  refine AT_skip ?_
  refine ablock_n ?_
  refine athen_n ?_
  refine zsr ?_
  refine seg 1 [0, 2, 26] [(26, .sl 1 (a1.map eB) none)] [1, 2] (by kernel_rfl) (by kernel_rfl) ?_
  refine AOps_inline [.sl 1 (a1.map eB) none] (tl_get rfl) rfl rfl rfl (by kernel_rfl) Try.func19 (by decide) rfl rfl ?_
  refine AT_forget 0x1 (mkS 7 [(0, .sl 1 (a1.map eB) none)]) (by kernel_rfl) ?_
  refine zsr ?_
  refine seg 1 [0] [] [] (by kernel_rfl) (by kernel_rfl) ?_
  refine znsr ?_
  refine seg 1 [3] [(3, .sl 1 (a1.map eB) none)] [1, 2, 3, 4] (by kernel_rfl) (by kernel_rfl) ?_
  obtain ⟨v5, ht3, h⟩ := bs h
  refine AOps_callR _ [.sl 1 (a1.map eB) none] (tl_get rfl) rfl rfl rfl rfl Try.func29 (by decide) rfl ((.cons (D.le.refl _) (.nil))) (slices_Clone_byte.ok a1 _  _ ht3) ?_
  rintro _ S_ ⟨t7, rfl, h2_⟩
  replace hh := hh.calln h2_
  refine fg [4] ?_
  refine seg 1 [5] [(5, .ag [.sl 1 (v5.map eB) (some t7), bo false])] [3, 4] (by kernel_rfl) (by kernel_rfl) ?_
  refine AOps_boxV (ds := [.sl 1 (v5.map eB) (some t7), bo false]) (cs' := [.sl 1 (v5.map eB) none, bo false]) (tl_get rfl) rfl rfl (by kernel_rfl) (.cons (sl_le) (.cons (D.le.refl _) (.nil))) (fun S_ m1 hf_ u_ => ?_)
  replace hh := hh.obN hf_ u_
  refine fg [6] ?_
  refine seg 1 [2] [(2, .ob m1 0)] [] (by kernel_rfl) (by kernel_rfl) ?_
  refine zn ?_
  refine AT_ret ?_
  refine ⟨[.ob m1 0], .ob m1 0, S_, (.of (by kernel_rfl)), D.le.refl _, Store.le.refl _, ?_⟩
  refine fg [0, 2, 27] ?_
  refine seg 1 [0, 2, 8] [(8, .ob m1 0)] [] (by kernel_rfl) (by kernel_rfl) ?_
  refine znsr ?_
  refine seg 1 [0, 2, 8, 9] [(9, nilS)] [] (by kernel_rfl) (by kernel_rfl) ?_
  refine zn ?_
  refine AT_seq ?_
  refine zsr ?_
  refine AOps_seg 1 0x705 (mkS 54 [(0, i64 a0), (2, i64 a2), (8, .ob m1 0), (9, nilS), (10, i64 0)]) none [] (by kernel_rfl) (by kernel_rfl) trivial ?_
  refine zn ?_
  refine AT_block ?_
  refine AT_nilU 9 5 (fun tk_ => mkS 54 [(0, i64 a0), (2, i64 a2), (8, .ob m1 0), (9, .sl 5 [] (some tk_)), (10, i64 0)]) (by kernel_rfl) (fun tk_ => by kernel_rfl) (fun S_ t8 hf_ u_ => ?_)
  replace hh := hh.tkN' hf_ u_ (n := (([] : List Cell)).length) (by first | rfl | (simp [bytesD_len]; done) | (simp [bytesD_len]; omega))
  refine AT_loopM 0x705 (fun k_ sl_ S_ => k_ ≤ k ∧ ∃ (x3 : (List Cell)), ∃ (x4 : Int), ∃ (x5 : (List UInt8)), ∃ (x6 : Bool), ∃ (tk2 : Nat), LeL sl_ (mkS 54 [(0, i64 a0), (2, i64 a2), (8, .ob m1 0), (9, .sl 5 (x3.map Cell.enc) (some tk2)), (10, i64 x4)]) ∧ plain_Decode.l0 k_ a0 a2 x3 x4 x5 x6 = some (r0, r1) ∧ Own S [] S_ [.o m1 (.cells 77 [.sl 1 (x5.map eB) none, bo x6]), .t tk2 (x3).length 5]) k ⟨Nat.le_refl _, ([] : List Cell), 0, v5, false, t8, (le_rf (by kernel_rfl)), h, (hh.sub [1, 2] (by decide) (by kernel_rfl))⟩ ?_
  clear hh h
  rintro k' sl_ S_ ⟨hk_, x3, x4, x5, x6, tk2, hl_, h, hh⟩
  refine AT_weaken hl_ ?_
  obtain _ | k2 := k'
  · cases h
  rw [plain_Decode.l0] at h
  refine AT_seq ?_
  refine zsr ?_
  refine seg 4 [0, 2, 8, 9, 10, 31] [(31, bo (decide (x4 < a2)))] [4, 5, 6, 7] (by kernel_rfl) (by kernel_rfl) ?_
  refine casedR 31 (decide (x4 < a2)) (by kernel_rfl) (fun hc21 => ?_) (fun hc21 => ?_)
  · rw [if_f hc21] at h
    refine seg 4 [0, 2, 8, 9, 10, 35] [(35, bo false)] [] (by kernel_rfl) (by kernel_rfl) ?_
    refine zn ?_
    refine AT_cond_f (by kernel_rfl) ?_
    refine AT_exit ?_
    refine athen_e ?_
    refine athen_e ?_
    refine ablock_h ?_
    refine athen_n ?_
    refine AT_seq ?_
    refine zsr ?_
    refine seg 1 [0, 9, 44] [(44, .ob m1 0)] [1, 2, 3, 4, 5, 6, 7, 8] (by kernel_rfl) (by kernel_rfl) ?_
    obtain ⟨v24, ht20, h⟩ := bs h
    refine AOps_callR _ [.ob m1 0] (tl_get rfl) rfl rfl rfl rfl Try.func24 (by decide) rfl ((.cons (D.le.refl _) (.nil))) (cursor_Cursor_End_s0.ok (⟨x5, x6⟩ : Cursor) _ _ m1 ((hh.have_ [0] (by decide) (by kernel_rfl)).own) _ ht20) ?_
    rintro _ S_ ⟨rfl, h2_⟩
    replace hh := hh.call [0] [1] (by decide) (by kernel_rfl) h2_ rfl
    refine fg [0, 9, 45] ?_
    refine seg 2 [0, 9, 47] [(47, bo (!v24))] [4, 5, 6, 7, 8] (by kernel_rfl) (by kernel_rfl) ?_
    refine cased 47 (!v24) (by kernel_rfl) (fun hc25 => ?_) (fun hc25 => ?_)
    · rw [if_t hc25] at h
      refine seg 5 [9, 52] [(52, bo true)] [] (by kernel_rfl) (by kernel_rfl) ?_
      refine zn ?_
      refine AT_cond_t (by kernel_rfl) ?_
      refine zsr ?_
      refine seg 2 [6, 7] [(6, nilS), (7, bo false)] [] (by kernel_rfl) (by kernel_rfl) ?_
      refine zn ?_
      refine AT_nilU 6 5 (fun tk_ => mkS 54 [(6, .sl 5 [] (some tk_)), (7, bo false)]) (by kernel_rfl) (fun tk_ => by kernel_rfl) (fun S_ t21 hf_ u_ => ?_)
      replace hh := hh.tkN' hf_ u_ (n := (([] : List Cell)).length) (by first | rfl | (simp [bytesD_len]; done) | (simp [bytesD_len]; omega))
      refine AT_ret ?_
      refine athen_r ?_
      have e0_ : ([] : List Cell) = r0 := congrArg (fun p_ => p_.1) (Option.some.inj h)
      have e1_ : false = r1 := congrArg (fun p_ => p_.2) (Option.some.inj h)
      subst e0_
      subst e1_
      exact ⟨[.sl 5 [] (some t21), bo false], _, S_, (.of (by kernel_rfl)), D.le.refl _, Store.le.refl _, t21, rfl, (hh.sub [2] (by decide) (by kernel_rfl))⟩
    rw [if_f hc25] at h
    refine seg 2 [9, 47, 48, 49] [(48, i64 a0), (49, .sl 5 (x3.map Cell.enc) (some tk2))] [6, 7, 8] (by kernel_rfl) (by kernel_rfl) ?_
    obtain ⟨v25, ht21, h⟩ := bs h
    refine AOps_callR _ [i64 a0, .sl 5 (x3.map Cell.enc) none] (tl_get rfl) rfl rfl rfl rfl Try.func44 (by decide) rfl ((.cons (D.le.refl _) (.cons (sl_le) (.nil)))) (plain_right.ok _ a0 x3 _  _ ht21) ?_
    rintro _ S_ ⟨rfl, h2_⟩
    replace hh := hh.call0 h2_
    refine fg [9, 47, 50] ?_
    refine seg 2 [9, 52] [(52, bo (!v25))] [] (by kernel_rfl) (by kernel_rfl) ?_
    refine zn ?_
    refine AT_condR (!v25) (by kernel_rfl) (fun hc26 => ?_) (fun hc26 => ?_)
    · rw [if_f hc26] at h
      refine zkn ?_
      refine zsr ?_
      refine AOps_seg 3 0xc0 (mkS 54 [(6, .sl 5 (x3.map Cell.enc) (some tk2)), (7, bo true)]) none [] (by kernel_rfl) (by kernel_rfl) trivial ?_
      refine zn ?_
      refine AT_ret ?_
      have e0_ : x3 = r0 := congrArg (fun p_ => p_.1) (Option.some.inj h)
      have e1_ : true = r1 := congrArg (fun p_ => p_.2) (Option.some.inj h)
      subst e0_
      subst e1_
      exact ⟨[.sl 5 (x3.map Cell.enc) (some tk2), bo true], _, S_, (.of (by kernel_rfl)), D.le.refl _, Store.le.refl _, tk2, rfl, (hh.sub [1] (by decide) (by kernel_rfl))⟩
    rw [if_t hc26] at h
    refine zsr ?_
    refine AOps_seg 2 0xc0 (mkS 54 [(6, nilS), (7, bo false)]) none [] (by kernel_rfl) (by kernel_rfl) trivial ?_
    refine zn ?_
    refine AT_nilU 6 5 (fun tk_ => mkS 54 [(6, .sl 5 [] (some tk_)), (7, bo false)]) (by kernel_rfl) (fun tk_ => by kernel_rfl) (fun S_ t22 hf_ u_ => ?_)
    replace hh := hh.tkN' hf_ u_ (n := (([] : List Cell)).length) (by first | rfl | (simp [bytesD_len]; done) | (simp [bytesD_len]; omega))
    refine AT_ret ?_
    refine athen_r ?_
    have e0_ : ([] : List Cell) = r0 := congrArg (fun p_ => p_.1) (Option.some.inj h)
    have e1_ : false = r1 := congrArg (fun p_ => p_.2) (Option.some.inj h)
    subst e0_
    subst e1_
    exact ⟨[.sl 5 [] (some t22), bo false], _, S_, (.of (by kernel_rfl)), D.le.refl _, Store.le.refl _, t22, rfl, (hh.sub [2] (by decide) (by kernel_rfl))⟩
  rw [if_t hc21] at h
  refine seg 1 [0, 2, 8, 9, 10, 31, 32] [(32, .ob m1 0)] [5, 6, 7] (by kernel_rfl) (by kernel_rfl) ?_
  obtain ⟨v19, ht16, h⟩ := bs h
  refine AOps_callR _ [.ob m1 0] (tl_get rfl) rfl rfl rfl rfl Try.func23 (by decide) rfl ((.cons (D.le.refl _) (.nil))) (cursor_Cursor_Bad_s0.ok (⟨x5, x6⟩ : Cursor) _ _ m1 ((hh.have_ [0] (by decide) (by kernel_rfl)).own) _ ht16) ?_
  rintro _ S_ ⟨rfl, h2_⟩
  replace hh := hh.call [0] [1] (by decide) (by kernel_rfl) h2_ rfl
  refine fg [0, 2, 8, 9, 10, 31, 33] ?_
  refine seg 2 [0, 2, 8, 9, 10, 35] [(35, bo (!v19))] [] (by kernel_rfl) (by kernel_rfl) ?_
  refine zn ?_
  refine AT_condS (!v19) (by kernel_rfl) (fun hc22 => ?_) (fun hc22 => ?_)
  · rw [if_t hc22] at h
    refine zkn ?_
    refine AT_seq ?_
    refine AT_block ?_
    refine AT_region ?_
    refine seg 3 [0, 2, 8, 10, 38, 39, 40] [(38, .sl 5 (x3.map Cell.enc) (some tk2)), (39, .ob m1 0), (40, i64 a0)] [3, 4, 5, 6] (by kernel_rfl) (by kernel_rfl) ?_
    obtain ⟨⟨v20, v21⟩, ht17, h⟩ := bs h
    simp only at h
    refine AOps_callR _ [.ob m1 0, i64 a0] (tl_get rfl) rfl rfl rfl rfl Try.func49 (by decide) rfl ((.cons (D.le.refl _) (.cons (D.le.refl _) (.nil)))) (plain_take_s0.ok _ (⟨x5, x6⟩ : Cursor) a0 _ _ m1 ((hh.have_ [0] (by decide) (by kernel_rfl)).own) _ _ ht17) ?_
    rintro _ S_ ⟨rfl, h2_⟩
    replace hh := hh.call [0] [1] (by decide) (by kernel_rfl) h2_ rfl
    refine fg [0, 2, 8, 10, 38, 41] ?_
    refine AOps_litU (sz := 5) (es := [(Cell.enc v20)]) (tl_get rfl) rfl rfl rfl (by kernel_rfl) (by decide) (by kernel_rfl) (by decide) (by kernel_rfl) (by kernel_rfl) (by intro x hx; simp only [List.mem_cons, List.not_mem_nil, or_false] at hx; rcases hx with rfl <;> rfl) (fun S_ t18 hf_ u_ => ?_)
    replace hh := hh.tkN' hf_ u_ (n := (([v20] : List Cell)).length) (by first | rfl | (simp [bytesD_len]; done) | (simp [bytesD_len]; omega))
    refine fg [0, 2, 8, 10, 38, 42] ?_
    obtain ⟨hl2, h⟩ := is h
    refine AOps_appendU (bytes := 48) (es := x3.map Cell.enc) (xs := [(Cell.enc v20)]) (tl := (some t18)) (x3).length (tl_get rfl) rfl rfl rfl (by kernel_rfl) rfl (hh.tk 1 (by kernel_rfl)) (by simp only [List.length_map, List.length_cons, List.length_nil]) (.inl ⟨40, by kernel_rfl, rfl⟩) (by simp only [List.length_map, bytesD_len, List.length_cons, List.length_nil]; omega) (by simp only [List.length_map, bytesD_len, List.length_cons, List.length_nil]; omega) (fun S_ u_ => ?_)
    replace hh := hh.tkS' 1 (by kernel_rfl) u_ (n := (x3 ++ ([v20] : List Cell)).length) (by first | rfl | (simp [bytesD_len]; done) | (simp [bytesD_len]; omega))
    refine fg [0, 2, 8, 10, 43] ?_
    refine tod 43 (.sl 5 ((x3.map Cell.enc) ++ [(Cell.enc v20)]) (some tk2)) (.sl 5 ((x3 ++ ([v20] : List Cell)).map Cell.enc) (some tk2)) (by kernel_rfl) (by first | rw [List.map_append]; done | (simp only [List.map_append]; done) | (simp only [List.map_append]; rfl) | (rw [List.map_append]; rfl)) ?_
    refine AOps_seg 1 0x705 (mkS 54 [(0, i64 a0), (2, i64 a2), (8, .ob m1 0), (9, .sl 5 ((x3 ++ ([v20] : List Cell)).map Cell.enc) (some tk2)), (10, i64 x4)]) none [] (by kernel_rfl) (by kernel_rfl) trivial ?_
    refine AOps_end ?_
    refine ablock_n ?_
    refine athen_n ?_
    refine AT_region ?_
    refine seg 3 [0, 2, 8, 9, 10] [(10, i64 (IntKind.wrap .i64 (x4 + 1)))] [] (by kernel_rfl) (by kernel_rfl) ?_
    refine zn ?_
    exact ⟨k2, (by omega), (by omega), x3 ++ ([v20] : List Cell), IntKind.wrap .i64 (x4 + 1), v21.left, v21.bad, tk2, (le_rf (by kernel_rfl)), h, (hh.sub [0, 1] (by decide) (by kernel_rfl))⟩
  rw [if_f hc22] at h
  refine AT_exit ?_
  refine athen_e ?_
  refine athen_e ?_
  refine ablock_h ?_
  refine athen_n ?_
  refine AT_seq ?_
  refine zsr ?_
  refine seg 1 [0, 9, 44] [(44, .ob m1 0)] [1, 2, 3, 4, 5, 6, 7, 8] (by kernel_rfl) (by kernel_rfl) ?_
  obtain ⟨v22, ht18, h⟩ := bs h
  refine AOps_callR _ [.ob m1 0] (tl_get rfl) rfl rfl rfl rfl Try.func24 (by decide) rfl ((.cons (D.le.refl _) (.nil))) (cursor_Cursor_End_s0.ok (⟨x5, x6⟩ : Cursor) _ _ m1 ((hh.have_ [0] (by decide) (by kernel_rfl)).own) _ ht18) ?_
  rintro _ S_ ⟨rfl, h2_⟩
  replace hh := hh.call [0] [1] (by decide) (by kernel_rfl) h2_ rfl
  refine fg [0, 9, 45] ?_
  refine seg 2 [0, 9, 47] [(47, bo (!v22))] [4, 5, 6, 7, 8] (by kernel_rfl) (by kernel_rfl) ?_
  refine cased 47 (!v22) (by kernel_rfl) (fun hc23 => ?_) (fun hc23 => ?_)
  · rw [if_t hc23] at h
    refine seg 5 [9, 52] [(52, bo true)] [] (by kernel_rfl) (by kernel_rfl) ?_
    refine zn ?_
    refine AT_cond_t (by kernel_rfl) ?_
    refine zsr ?_
    refine AOps_seg 2 0xc0 (mkS 54 [(6, nilS), (7, bo false)]) none [] (by kernel_rfl) (by kernel_rfl) trivial ?_
    refine zn ?_
    refine AT_nilU 6 5 (fun tk_ => mkS 54 [(6, .sl 5 [] (some tk_)), (7, bo false)]) (by kernel_rfl) (fun tk_ => by kernel_rfl) (fun S_ t19 hf_ u_ => ?_)
    replace hh := hh.tkN' hf_ u_ (n := (([] : List Cell)).length) (by first | rfl | (simp [bytesD_len]; done) | (simp [bytesD_len]; omega))
    refine AT_ret ?_
    refine athen_r ?_
    have e0_ : ([] : List Cell) = r0 := congrArg (fun p_ => p_.1) (Option.some.inj h)
    have e1_ : false = r1 := congrArg (fun p_ => p_.2) (Option.some.inj h)
    subst e0_
    subst e1_
    exact ⟨[.sl 5 [] (some t19), bo false], _, S_, (.of (by kernel_rfl)), D.le.refl _, Store.le.refl _, t19, rfl, (hh.sub [2] (by decide) (by kernel_rfl))⟩
  rw [if_f hc23] at h
  refine seg 2 [9, 47, 48, 49] [(48, i64 a0), (49, .sl 5 (x3.map Cell.enc) (some tk2))] [6, 7, 8] (by kernel_rfl) (by kernel_rfl) ?_
  obtain ⟨v23, ht19, h⟩ := bs h
  refine AOps_callR _ [i64 a0, .sl 5 (x3.map Cell.enc) none] (tl_get rfl) rfl rfl rfl rfl Try.func44 (by decide) rfl ((.cons (D.le.refl _) (.cons (sl_le) (.nil)))) (plain_right.ok _ a0 x3 _  _ ht19) ?_
  rintro _ S_ ⟨rfl, h2_⟩
  replace hh := hh.call0 h2_
  refine AOps_forget 0x4800000000200 (mkS 54 [(9, .sl 5 (x3.map Cell.enc) (some tk2)), (47, bo false), (50, bo v23)]) (by kernel_rfl) ?_
  refine seg 2 [9, 52] [(52, bo (!v23))] [] (by kernel_rfl) (by kernel_rfl) ?_
  refine zn ?_
  refine AT_condR (!v23) (by kernel_rfl) (fun hc24 => ?_) (fun hc24 => ?_)
  · rw [if_f hc24] at h
    refine zkn ?_
    refine zsr ?_
    refine seg 3 [6, 7] [(6, .sl 5 (x3.map Cell.enc) (some tk2)), (7, bo true)] [] (by kernel_rfl) (by kernel_rfl) ?_
    refine zn ?_
    refine AT_ret ?_
    have e0_ : x3 = r0 := congrArg (fun p_ => p_.1) (Option.some.inj h)
    have e1_ : true = r1 := congrArg (fun p_ => p_.2) (Option.some.inj h)
    subst e0_
    subst e1_
    exact ⟨[.sl 5 (x3.map Cell.enc) (some tk2), bo true], _, S_, (.of (by kernel_rfl)), D.le.refl _, Store.le.refl _, tk2, rfl, (hh.sub [1] (by decide) (by kernel_rfl))⟩
  rw [if_t hc24] at h
  refine zsr ?_
  refine seg 2 [6, 7] [(6, nilS), (7, bo false)] [] (by kernel_rfl) (by kernel_rfl) ?_
  refine zn ?_
  refine AT_nilU 6 5 (fun tk_ => mkS 54 [(6, .sl 5 [] (some tk_)), (7, bo false)]) (by kernel_rfl) (fun tk_ => by kernel_rfl) (fun S_ t20 hf_ u_ => ?_)
  replace hh := hh.tkN' hf_ u_ (n := (([] : List Cell)).length) (by first | rfl | (simp [bytesD_len]; done) | (simp [bytesD_len]; omega))
  refine AT_ret ?_
  refine athen_r ?_
  have e0_ : ([] : List Cell) = r0 := congrArg (fun p_ => p_.1) (Option.some.inj h)
  have e1_ : false = r1 := congrArg (fun p_ => p_.2) (Option.some.inj h)
  subst e0_
  subst e1_
  exact ⟨[.sl 5 [] (some t20), bo false], _, S_, (.of (by kernel_rfl)), D.le.refl _, Store.le.refl _, t20, rfl, (hh.sub [2] (by decide) (by kernel_rfl))⟩
def schema_one_s0.j0 : Nat → (List UInt8) → Bool → (List UInt8) → Int → Option (Col × Cursor)
  | 0, _, _, _, _ => none
  | k + 1, x1, x2, x3, x4 => (cursor_Cursor_Byte_s0.f k (⟨x1, x2⟩ : Cursor)).bind fun q_v13 => (if ((q_v13.1.toNat : Int) == 0) = true then (some ((⟨x3, x4, false⟩ : Col), q_v13.2)) else (if ((q_v13.1.toNat : Int) == 1) = true then (some ((⟨x3, x4, true⟩ : Col), q_v13.2)) else ((cursor_Cursor_Fail_s0.f q_v13.2).bind fun v15 => (some ((⟨x3, x4, false⟩ : Col), v15)))))
def schema_one_s0.f (k : Nat) (a0 : Cursor) : Option (Col × Cursor) := (varint_Len_s0.f k a0 100).bind fun q_v7 => ((cursor_Cursor_Take_s0.f q_v7.2 q_v7.1).bind fun q_v9 => ((cursor_Cursor_Byte_s0.f k q_v9.2).bind fun q_v11 => (schema_one_s0.j0 k q_v11.2.left q_v11.2.bad q_v9.1 (IntKind.wrap .i64 (q_v11.1.toNat : Int)))))
theorem schema_one_s0.mono_l : ∀ k, (∀ y0 y1 y2 y3, LeO (schema_one_s0.j0 k y0 y1 y2 y3) (schema_one_s0.j0 (k + 1) y0 y1 y2 y3))
  | 0 => fun _ _ _ _ r h => (by simp only [schema_one_s0.j0] at h; cases h)
  | k + 1 => by
    have ih := schema_one_s0.mono_l k
    · intro y0 y1 y2 y3
      rw [schema_one_s0.j0, schema_one_s0.j0]
      repeat' first
        | exact LeO.refl _
        | exact LeO.none _
        | exact ih _ _ _ _
        | exact cursor_Cursor_Byte_s0.mono _ _
        | exact varint_Len_s0.mono _ _ _
        | refine LeO.ite ?_ ?_
        | refine LeO.bind ?_ (fun _ => ?_)
theorem schema_one_s0.mono (k : Nat) (a0 : Cursor) : LeO (schema_one_s0.f k a0) (schema_one_s0.f (k + 1) a0) := by
  unfold schema_one_s0.f
  repeat' first
    | exact LeO.refl _
    | exact LeO.none _
    | exact (schema_one_s0.mono_l k) _ _ _ _
    | exact cursor_Cursor_Byte_s0.mono _ _
    | exact varint_Len_s0.mono _ _ _
    | refine LeO.ite ?_ ?_
    | refine LeO.bind ?_ (fun _ => ?_)
theorem schema_one_s0.ok (k : Nat) (a0 : Cursor) (S : Store) (B : List (Bool × Nat)) (b0 : Nat) (hh : Own S B S [.o b0 (.cells 77 [.sl 1 (a0.left.map eB) none, bo a0.bad])]) (r0 : Col) (c0_ : Cursor) (h : schema_one_s0.f k a0 = some (r0, c0_)) : ACalls Try.prog 34 [.ob b0 0] S (fun r_ S_ => r_ = .ag (Col.enc r0) ∧ Own S B S_ [.o b0 (.cells 77 [.sl 1 (c0_.left.map eB) none, bo c0_.bad])]) := by
  unfold schema_one_s0.f at h
  refine acalls_of Try.func34 rfl ?_
  refine AT_forget 0x1 (mkS 23 [(0, .ob b0 0)]) (by kernel_rfl) ?_
  refine zsr ?_
  refine AOps_allocV (ds := [str [], i64 0, bo false]) (cs' := [str [], i64 0, bo false]) (tl_get rfl) rfl rfl (by kernel_rfl) (LeL.refl _) (fun S_ m1 hf_ u_ => ?_)
  replace hh := hh.obN hf_ u_
  refine fg [0, 2] ?_
  refine zn ?_
  refine AT_cutM 0xd (fun sl_ S_ => ∃ (k_ : Nat), k_ ≤ k ∧ ∃ (x1 : (List UInt8)), ∃ (x2 : Bool), ∃ (x3 : (List UInt8)), ∃ (x4 : Int), ∃ (m2 : Nat), LeL sl_ (mkS 23 [(0, .ob b0 0), (2, .ob m1 0), (3, .ob m2 0)]) ∧ schema_one_s0.j0 k_ x1 x2 x3 x4 = some (r0, c0_) ∧ Own S B S_ [.o b0 (.cells 77 [.sl 1 (x1.map eB) none, bo x2]), .o m1 (.cells 46 [str [], i64 0, bo false]), .o m2 (.cells 46 [str x3, i64 x4, bo false])]) ?_ ?_
  · refine AT_draw [2, 3, 6, 9, 10] 11 (fun _ => True) (by kernel_rfl) ?_
    refine aseg 11 [] [0, 2] [] #[false, false, false, false, false, false, false, false, false, false, false] (by kernel_rfl) (by kernel_rfl) ?_
    refine aseg 8 [0, 1, 5] [0, 2, 4, 5, 9] [(4, .ob b0 0), (5, .ob b0 0), (9, .ob b0 0)] #[true, true, false, false, false, true, false, false, false, false, false] (by kernel_rfl) (by kernel_rfl) ?_
    refine AAny_alts (fuel := 7) [2, 9] (.inr trivial) (by kernel_rfl) (by kernel_rfl) (alts_cons (aeff (tl_get rfl) (by kernel_rfl) (by kernel_rfl) ?_) (alts_cons (aeff (tl_get rfl) (by kernel_rfl) (by kernel_rfl) ?_) alts_nil))
    · obtain ⟨⟨v7, v8⟩, ht4, h⟩ := bs h
      simp only at h
      refine AOps_callR _ [.ob b0 0, i64 100] (tl_get rfl) rfl rfl rfl rfl Try.func21 (by decide) rfl ((.cons (D.le.refl _) (.cons (D.le.refl _) (.nil)))) (varint_Len_s0.ok _ a0 100 _ _ b0 ((hh.have_ [0] (by decide) (by kernel_rfl)).own) _ _ ht4) ?_
      rintro _ S_ ⟨rfl, h2_⟩
      replace hh := hh.call [0] [1] (by decide) (by kernel_rfl) h2_ rfl
      refine AOps_end ⟨rfl, _, rfl, ?_⟩; refine afg [0, 2, 4, 6, 9] #[true, true, true, false, false, true, false, false, false, false, false] (by kernel_rfl) ?_
      refine AAny_alts (fuel := 6) [3, 9] (.inr trivial) (by kernel_rfl) (by kernel_rfl) (alts_cons (aeff (tl_get rfl) (by kernel_rfl) (by kernel_rfl) ?_) (alts_cons (aeff (tl_get rfl) (by kernel_rfl) (by kernel_rfl) ?_) alts_nil))
      · obtain ⟨⟨v9, v10⟩, ht5, h⟩ := bs h
        simp only at h
        refine AOps_callR _ [.ob b0 0, i64 v7] (tl_get rfl) rfl rfl rfl rfl Try.func39 (by decide) rfl ((.cons (D.le.refl _) (.cons (D.le.refl _) (.nil)))) (cursor_Cursor_Take_s0.ok v8 v7 _ _ b0 ((hh.have_ [0] (by decide) (by kernel_rfl)).own) _ _ ht5) ?_
        rintro _ S_ ⟨t2, rfl, h2_⟩
        replace hh := hh.call [0] [1] (by decide) (by kernel_rfl) h2_ rfl
        refine AOps_end ⟨rfl, _, rfl, ?_⟩; refine afg [0, 2, 7, 9] #[true, true, true, true, false, true, false, false, false, false, false] (by kernel_rfl) ?_
        refine AAny_str (i := 4) v9 (tl_get rfl) (by kernel_rfl) rfl rfl rfl rfl (by kernel_rfl) rfl ?_
        refine afg [0, 2, 8, 9] #[true, true, true, true, true, true, false, false, false, false, false] (by kernel_rfl) ?_
        refine AAny_alts (fuel := 4) [6, 9] (.inr trivial) (by kernel_rfl) (by kernel_rfl) (alts_cons (aeff (tl_get rfl) (by kernel_rfl) (by kernel_rfl) ?_) (alts_cons (aeff (tl_get rfl) (by kernel_rfl) (by kernel_rfl) ?_) alts_nil))
        · obtain ⟨⟨v11, v12⟩, ht6, h⟩ := bs h
          simp only at h
          refine AOps_callR _ [.ob b0 0] (tl_get rfl) rfl rfl rfl rfl Try.func37 (by decide) rfl ((.cons (D.le.refl _) (.nil))) (cursor_Cursor_Byte_s0.ok _ v10 _ _ b0 ((hh.have_ [0] (by decide) (by kernel_rfl)).own) _ _ ht6) ?_
          rintro _ S_ ⟨rfl, h2_⟩
          replace hh := hh.call [0] [1, 2] (by decide) (by kernel_rfl) h2_ rfl
          refine AOps_end ⟨rfl, _, rfl, ?_⟩; refine afg [0, 2, 8, 10] #[true, true, true, true, true, true, true, false, false, false, false] (by kernel_rfl) ?_
          refine aseg 2 [7, 8] [0, 2, 12] [(12, .ag [str v9, i64 (IntKind.wrap .i64 (v11.toNat : Int)), bo false])] #[true, true, true, true, true, true, true, true, true, false, false] (by kernel_rfl) (by kernel_rfl) ?_
          refine AAny_eff (fuel := 1) 9 (.inr trivial) (tl_get rfl) (by kernel_rfl) (by kernel_rfl) (by kernel_rfl) ?_
          refine AOps_allocV (ds := [str [], i64 0, bo false]) (cs' := [str [], i64 0, bo false]) (tl_get rfl) rfl rfl (by kernel_rfl) (LeL.refl _) (fun S_ m2 hf_ u_ => ?_)
          replace hh := hh.obN hf_ u_
          refine AOps_end ⟨rfl, _, rfl, ?_⟩; refine AAny_forget 0x100d (mkS 23 [(0, .ob b0 0), (2, .ob m1 0), (3, .ob m2 0), (12, .ag [str v9, i64 (IntKind.wrap .i64 (v11.toNat : Int)), bo false])]) #[true, true, true, true, true, true, true, true, true, true, false] (by kernel_rfl) (by kernel_rfl) ?_
          refine AAny_eff (fuel := 0) 10 (.inr trivial) (tl_get rfl) (by kernel_rfl) (by kernel_rfl) (by kernel_rfl) ?_
          refine AOps_putV (T := 46) (off := 0) (cs := [str [], i64 0, bo false]) (ds := [str v9, i64 (IntKind.wrap .i64 (v11.toNat : Int)), bo false]) (cs' := [str v9, i64 (IntKind.wrap .i64 (v11.toNat : Int)), bo false]) (tl_get rfl) rfl rfl rfl (hh.ob 3 (by kernel_rfl)) rfl (by kernel_rfl) (Nat.le_of_ble_eq_true rfl) (LeL.refl _) (fun S_ u_ => ?_)
          replace hh := hh.obS' 3 (by kernel_rfl) u_
          refine AOps_end ⟨rfl, _, rfl, ?_⟩; refine afg0 [0, 2, 3] #[true, true, true, true, true, true, true, true, true, true, true] (by kernel_rfl) ?_
          refine AAny_end (.inr trivial) (by kernel_rfl) ?_
          refine athen_n ?_
          exact ⟨k, (by omega), v12.left, v12.bad, v9, IntKind.wrap .i64 (v11.toNat : Int), m2, (le_rf (by kernel_rfl)), h, (hh.sub [0, 2, 3] (by decide) (by kernel_rfl))⟩
        refine AOps_allocV (ds := [str [], i64 0, bo false]) (cs' := [str [], i64 0, bo false]) (tl_get rfl) rfl rfl (by kernel_rfl) (LeL.refl _) (fun S_ m2 hf_ u_ => ?_)
        replace hh := hh.obN hf_ u_
        refine AOps_end ⟨rfl, _, rfl, ?_⟩; refine afg [0, 2, 3, 8, 9] #[true, true, true, true, true, true, false, false, false, true, false] (by kernel_rfl) ?_
        refine AAny_eff (fuel := 3) 6 (.inr trivial) (tl_get rfl) (by kernel_rfl) (by kernel_rfl) (by kernel_rfl) ?_
        obtain ⟨⟨v11, v12⟩, ht6, h⟩ := bs h
        simp only at h
        refine AOps_callR _ [.ob b0 0] (tl_get rfl) rfl rfl rfl rfl Try.func37 (by decide) rfl ((.cons (D.le.refl _) (.nil))) (cursor_Cursor_Byte_s0.ok _ v10 _ _ b0 ((hh.have_ [0] (by decide) (by kernel_rfl)).own) _ _ ht6) ?_
        rintro _ S_ ⟨rfl, h2_⟩
        replace hh := hh.call [0] [1, 2, 3] (by decide) (by kernel_rfl) h2_ rfl
        refine AOps_end ⟨rfl, _, rfl, ?_⟩; refine afg [0, 2, 3, 8, 10] #[true, true, true, true, true, true, true, false, false, true, false] (by kernel_rfl) ?_
        refine AAny_seg 1 [7, 8] 0x100d (mkS 23 [(0, .ob b0 0), (2, .ob m1 0), (3, .ob m2 0), (12, .ag [str v9, i64 (IntKind.wrap .i64 (v11.toNat : Int)), bo false])]) none #[true, true, true, true, true, true, true, true, true, true, false] (by kernel_rfl) trivial (by kernel_rfl) ?_
        refine AAny_eff (fuel := 0) 10 (.inr trivial) (tl_get rfl) (by kernel_rfl) (by kernel_rfl) (by kernel_rfl) ?_
        refine AOps_putV (T := 46) (off := 0) (cs := [str [], i64 0, bo false]) (ds := [str v9, i64 (IntKind.wrap .i64 (v11.toNat : Int)), bo false]) (cs' := [str v9, i64 (IntKind.wrap .i64 (v11.toNat : Int)), bo false]) (tl_get rfl) rfl rfl rfl (hh.ob 3 (by kernel_rfl)) rfl (by kernel_rfl) (Nat.le_of_ble_eq_true rfl) (LeL.refl _) (fun S_ u_ => ?_)
        replace hh := hh.obS' 3 (by kernel_rfl) u_
        refine AOps_end ⟨rfl, _, rfl, ?_⟩; refine afg0 [0, 2, 3] #[true, true, true, true, true, true, true, true, true, true, true] (by kernel_rfl) ?_
        refine AAny_end (.inr trivial) (by kernel_rfl) ?_
        refine athen_n ?_
        exact ⟨k, (by omega), v12.left, v12.bad, v9, IntKind.wrap .i64 (v11.toNat : Int), m2, (le_rf (by kernel_rfl)), h, (hh.sub [0, 2, 3] (by decide) (by kernel_rfl))⟩
      refine AOps_allocV (ds := [str [], i64 0, bo false]) (cs' := [str [], i64 0, bo false]) (tl_get rfl) rfl rfl (by kernel_rfl) (LeL.refl _) (fun S_ m2 hf_ u_ => ?_)
      replace hh := hh.obN hf_ u_
      refine AOps_end ⟨rfl, _, rfl, ?_⟩; refine afg [0, 2, 3, 4, 6, 9] #[true, true, true, false, false, true, false, false, false, true, false] (by kernel_rfl) ?_
      refine AAny_eff (fuel := 5) 3 (.inr trivial) (tl_get rfl) (by kernel_rfl) (by kernel_rfl) (by kernel_rfl) ?_
      obtain ⟨⟨v9, v10⟩, ht5, h⟩ := bs h
      simp only at h
      refine AOps_callR _ [.ob b0 0, i64 v7] (tl_get rfl) rfl rfl rfl rfl Try.func39 (by decide) rfl ((.cons (D.le.refl _) (.cons (D.le.refl _) (.nil)))) (cursor_Cursor_Take_s0.ok v8 v7 _ _ b0 ((hh.have_ [0] (by decide) (by kernel_rfl)).own) _ _ ht5) ?_
      rintro _ S_ ⟨t2, rfl, h2_⟩
      replace hh := hh.call [0] [1, 2] (by decide) (by kernel_rfl) h2_ rfl
      refine AOps_end ⟨rfl, _, rfl, ?_⟩; refine afg [0, 2, 3, 7, 9] #[true, true, true, true, false, true, false, false, false, true, false] (by kernel_rfl) ?_
      refine AAny_str (i := 4) v9 (tl_get rfl) (by kernel_rfl) rfl rfl rfl rfl (by kernel_rfl) rfl ?_
      refine afg [0, 2, 3, 8, 9] #[true, true, true, true, true, true, false, false, false, true, false] (by kernel_rfl) ?_
      refine AAny_eff (fuel := 3) 6 (.inr trivial) (tl_get rfl) (by kernel_rfl) (by kernel_rfl) (by kernel_rfl) ?_
      obtain ⟨⟨v11, v12⟩, ht6, h⟩ := bs h
      simp only at h
      refine AOps_callR _ [.ob b0 0] (tl_get rfl) rfl rfl rfl rfl Try.func37 (by decide) rfl ((.cons (D.le.refl _) (.nil))) (cursor_Cursor_Byte_s0.ok _ v10 _ _ b0 ((hh.have_ [0] (by decide) (by kernel_rfl)).own) _ _ ht6) ?_
      rintro _ S_ ⟨rfl, h2_⟩
      replace hh := hh.call [0] [1, 2, 3] (by decide) (by kernel_rfl) h2_ rfl
      refine AOps_end ⟨rfl, _, rfl, ?_⟩; refine afg [0, 2, 3, 8, 10] #[true, true, true, true, true, true, true, false, false, true, false] (by kernel_rfl) ?_
      refine AAny_seg 1 [7, 8] 0x100d (mkS 23 [(0, .ob b0 0), (2, .ob m1 0), (3, .ob m2 0), (12, .ag [str v9, i64 (IntKind.wrap .i64 (v11.toNat : Int)), bo false])]) none #[true, true, true, true, true, true, true, true, true, true, false] (by kernel_rfl) trivial (by kernel_rfl) ?_
      refine AAny_eff (fuel := 0) 10 (.inr trivial) (tl_get rfl) (by kernel_rfl) (by kernel_rfl) (by kernel_rfl) ?_
      refine AOps_putV (T := 46) (off := 0) (cs := [str [], i64 0, bo false]) (ds := [str v9, i64 (IntKind.wrap .i64 (v11.toNat : Int)), bo false]) (cs' := [str v9, i64 (IntKind.wrap .i64 (v11.toNat : Int)), bo false]) (tl_get rfl) rfl rfl rfl (hh.ob 3 (by kernel_rfl)) rfl (by kernel_rfl) (Nat.le_of_ble_eq_true rfl) (LeL.refl _) (fun S_ u_ => ?_)
      replace hh := hh.obS' 3 (by kernel_rfl) u_
      refine AOps_end ⟨rfl, _, rfl, ?_⟩; refine afg0 [0, 2, 3] #[true, true, true, true, true, true, true, true, true, true, true] (by kernel_rfl) ?_
      refine AAny_end (.inr trivial) (by kernel_rfl) ?_
      refine athen_n ?_
      exact ⟨k, (by omega), v12.left, v12.bad, v9, IntKind.wrap .i64 (v11.toNat : Int), m2, (le_rf (by kernel_rfl)), h, (hh.sub [0, 2, 3] (by decide) (by kernel_rfl))⟩
    refine AOps_allocV (ds := [str [], i64 0, bo false]) (cs' := [str [], i64 0, bo false]) (tl_get rfl) rfl rfl (by kernel_rfl) (LeL.refl _) (fun S_ m2 hf_ u_ => ?_)
    replace hh := hh.obN hf_ u_
    refine AOps_end ⟨rfl, _, rfl, ?_⟩; refine afg [0, 2, 3, 4, 5, 9] #[true, true, false, false, false, true, false, false, false, true, false] (by kernel_rfl) ?_
    refine AAny_eff (fuel := 6) 2 (.inr trivial) (tl_get rfl) (by kernel_rfl) (by kernel_rfl) (by kernel_rfl) ?_
    obtain ⟨⟨v7, v8⟩, ht4, h⟩ := bs h
    simp only at h
    refine AOps_callR _ [.ob b0 0, i64 100] (tl_get rfl) rfl rfl rfl rfl Try.func21 (by decide) rfl ((.cons (D.le.refl _) (.cons (D.le.refl _) (.nil)))) (varint_Len_s0.ok _ a0 100 _ _ b0 ((hh.have_ [0] (by decide) (by kernel_rfl)).own) _ _ ht4) ?_
    rintro _ S_ ⟨rfl, h2_⟩
    replace hh := hh.call [0] [1, 2] (by decide) (by kernel_rfl) h2_ rfl
    refine AOps_end ⟨rfl, _, rfl, ?_⟩; refine afg [0, 2, 3, 4, 6, 9] #[true, true, true, false, false, true, false, false, false, true, false] (by kernel_rfl) ?_
    refine AAny_eff (fuel := 5) 3 (.inr trivial) (tl_get rfl) (by kernel_rfl) (by kernel_rfl) (by kernel_rfl) ?_
    obtain ⟨⟨v9, v10⟩, ht5, h⟩ := bs h
    simp only at h
    refine AOps_callR _ [.ob b0 0, i64 v7] (tl_get rfl) rfl rfl rfl rfl Try.func39 (by decide) rfl ((.cons (D.le.refl _) (.cons (D.le.refl _) (.nil)))) (cursor_Cursor_Take_s0.ok v8 v7 _ _ b0 ((hh.have_ [0] (by decide) (by kernel_rfl)).own) _ _ ht5) ?_
    rintro _ S_ ⟨t2, rfl, h2_⟩
    replace hh := hh.call [0] [1, 2] (by decide) (by kernel_rfl) h2_ rfl
    refine AOps_end ⟨rfl, _, rfl, ?_⟩; refine afg [0, 2, 3, 7, 9] #[true, true, true, true, false, true, false, false, false, true, false] (by kernel_rfl) ?_
    refine AAny_str (i := 4) v9 (tl_get rfl) (by kernel_rfl) rfl rfl rfl rfl (by kernel_rfl) rfl ?_
    refine afg [0, 2, 3, 8, 9] #[true, true, true, true, true, true, false, false, false, true, false] (by kernel_rfl) ?_
    refine AAny_eff (fuel := 3) 6 (.inr trivial) (tl_get rfl) (by kernel_rfl) (by kernel_rfl) (by kernel_rfl) ?_
    obtain ⟨⟨v11, v12⟩, ht6, h⟩ := bs h
    simp only at h
    refine AOps_callR _ [.ob b0 0] (tl_get rfl) rfl rfl rfl rfl Try.func37 (by decide) rfl ((.cons (D.le.refl _) (.nil))) (cursor_Cursor_Byte_s0.ok _ v10 _ _ b0 ((hh.have_ [0] (by decide) (by kernel_rfl)).own) _ _ ht6) ?_
    rintro _ S_ ⟨rfl, h2_⟩
    replace hh := hh.call [0] [1, 2, 3] (by decide) (by kernel_rfl) h2_ rfl
    refine AOps_end ⟨rfl, _, rfl, ?_⟩; refine afg [0, 2, 3, 8, 10] #[true, true, true, true, true, true, true, false, false, true, false] (by kernel_rfl) ?_
    refine AAny_seg 1 [7, 8] 0x100d (mkS 23 [(0, .ob b0 0), (2, .ob m1 0), (3, .ob m2 0), (12, .ag [str v9, i64 (IntKind.wrap .i64 (v11.toNat : Int)), bo false])]) none #[true, true, true, true, true, true, true, true, true, true, false] (by kernel_rfl) trivial (by kernel_rfl) ?_
    refine AAny_eff (fuel := 0) 10 (.inr trivial) (tl_get rfl) (by kernel_rfl) (by kernel_rfl) (by kernel_rfl) ?_
    refine AOps_putV (T := 46) (off := 0) (cs := [str [], i64 0, bo false]) (ds := [str v9, i64 (IntKind.wrap .i64 (v11.toNat : Int)), bo false]) (cs' := [str v9, i64 (IntKind.wrap .i64 (v11.toNat : Int)), bo false]) (tl_get rfl) rfl rfl rfl (hh.ob 3 (by kernel_rfl)) rfl (by kernel_rfl) (Nat.le_of_ble_eq_true rfl) (LeL.refl _) (fun S_ u_ => ?_)
    replace hh := hh.obS' 3 (by kernel_rfl) u_
    refine AOps_end ⟨rfl, _, rfl, ?_⟩; refine afg0 [0, 2, 3] #[true, true, true, true, true, true, true, true, true, true, true] (by kernel_rfl) ?_
    refine AAny_end (.inr trivial) (by kernel_rfl) ?_
    refine athen_n ?_
    exact ⟨k, (by omega), v12.left, v12.bad, v9, IntKind.wrap .i64 (v11.toNat : Int), m2, (le_rf (by kernel_rfl)), h, (hh.sub [0, 2, 3] (by decide) (by kernel_rfl))⟩
  clear h hh
  rintro sl_ S_ ⟨k', hk_, x1, x2, x3, x4, m2, hl_, h, hh⟩
  refine AT_weaken hl_ ?_
  obtain _ | k1 := k'
  · cases h
  rw [schema_one_s0.j0] at h
  refine AT_seq ?_
  refine zsr ?_
  refine seg 1 [0, 2, 3, 13] [(13, .ob b0 0)] [1] (by kernel_rfl) (by kernel_rfl) ?_
  obtain ⟨⟨v13, v14⟩, ht7, h⟩ := bs h
  simp only at h
  refine AOps_callR _ [.ob b0 0] (tl_get rfl) rfl rfl rfl rfl Try.func37 (by decide) rfl ((.cons (D.le.refl _) (.nil))) (cursor_Cursor_Byte_s0.ok _ (⟨x1, x2⟩ : Cursor) _ _ b0 ((hh.have_ [0] (by decide) (by kernel_rfl)).own) _ _ ht7) ?_
  rintro _ S_ ⟨rfl, h2_⟩
  replace hh := hh.call [0] [1, 2] (by decide) (by kernel_rfl) h2_ rfl
  refine fg [0, 2, 3, 14] ?_
  refine zn ?_
  refine AT_block ?_
  refine zsr ?_
  refine seg 2 [0, 2, 3, 14, 17] [(17, bo ((v13.toNat : Int) == 0))] [] (by kernel_rfl) (by kernel_rfl) ?_
  refine zn ?_
  refine AT_condS ((v13.toNat : Int) == 0) (by kernel_rfl) (fun hc1 => ?_) (fun hc1 => ?_)
  · rw [if_t hc1] at h
    refine AT_skip ?_
    refine ablock_n ?_
    refine athen_n ?_
    refine zsr ?_
    refine AOps_load (T := 46) (off := 0) (cs := [str x3, i64 x4, bo false]) (.ag [str x3, i64 x4, bo false]) (tl_get rfl) rfl rfl rfl (hh.ob 2 (by kernel_rfl)) (.inl ⟨by kernel_rfl, 3, by kernel_rfl, Nat.le_of_ble_eq_true rfl, by kernel_rfl⟩) ?_
    refine fg [2, 22] ?_
    refine AOps_putV (T := 46) (off := 0) (cs := [str [], i64 0, bo false]) (ds := [str x3, i64 x4, bo false]) (cs' := [str x3, i64 x4, bo false]) (tl_get rfl) rfl rfl rfl (hh.ob 1 (by kernel_rfl)) rfl (by kernel_rfl) (Nat.le_of_ble_eq_true rfl) (LeL.refl _) (fun S_ u_ => ?_)
    replace hh := hh.obS' 1 (by kernel_rfl) u_
    refine fg0 [2] ?_
    refine zn ?_
    refine AT_ret ?_
    have e0_ : (⟨x3, x4, false⟩ : Col) = r0 := congrArg (fun p_ => p_.1) (Option.some.inj h)
    have e1_ : v14 = c0_ := congrArg (fun p_ => p_.2) (Option.some.inj h)
    subst e0_
    subst e1_
    exact ⟨[.ag [str x3, i64 x4, bo false]], _, S_, (.ob (k := m1) (o := 0) (T := 46) (cs := [str x3, i64 x4, bo false]) (by kernel_rfl) (hh.ob 1 (by kernel_rfl)) (.inl ⟨by kernel_rfl, 3, by kernel_rfl, Nat.le_of_ble_eq_true rfl, by kernel_rfl⟩) (.nil)), D.le.refl _, Store.le.refl _, rfl, (hh.sub [0] (by decide) (by kernel_rfl))⟩
  rw [if_f hc1] at h
  refine zsr ?_
  refine seg 2 [0, 2, 3, 19] [(19, bo ((v13.toNat : Int) == 1))] [] (by kernel_rfl) (by kernel_rfl) ?_
  refine zn ?_
  refine AT_condS ((v13.toNat : Int) == 1) (by kernel_rfl) (fun hc2 => ?_) (fun hc2 => ?_)
  · rw [if_t hc2] at h
    refine AT_region ?_
    refine seg 1 [2, 3, 21] [(21, .ob m2 2)] [1] (by kernel_rfl) (by kernel_rfl) ?_
    refine AOps_putV (T := 46) (off := 2) (cs := [str x3, i64 x4, bo false]) (ds := [bo true]) (cs' := [str x3, i64 x4, bo true]) (tl_get rfl) rfl rfl rfl (hh.ob 2 (by kernel_rfl)) rfl (by kernel_rfl) (Nat.le_of_ble_eq_true rfl) (LeL.refl _) (fun S_ u_ => ?_)
    replace hh := hh.obS' 2 (by kernel_rfl) u_
    refine fg0 [2, 3] ?_
    refine AOps_end ?_
    refine ablock_n ?_
    refine athen_n ?_
    refine zsr ?_
    refine AOps_load (T := 46) (off := 0) (cs := [str x3, i64 x4, bo true]) (.ag [str x3, i64 x4, bo true]) (tl_get rfl) rfl rfl rfl (hh.ob 2 (by kernel_rfl)) (.inl ⟨by kernel_rfl, 3, by kernel_rfl, Nat.le_of_ble_eq_true rfl, by kernel_rfl⟩) ?_
    refine fg [2, 22] ?_
    refine AOps_putV (T := 46) (off := 0) (cs := [str [], i64 0, bo false]) (ds := [str x3, i64 x4, bo true]) (cs' := [str x3, i64 x4, bo true]) (tl_get rfl) rfl rfl rfl (hh.ob 1 (by kernel_rfl)) rfl (by kernel_rfl) (Nat.le_of_ble_eq_true rfl) (LeL.refl _) (fun S_ u_ => ?_)
    replace hh := hh.obS' 1 (by kernel_rfl) u_
    refine fg0 [2] ?_
    refine zn ?_
    refine AT_ret ?_
    have e0_ : (⟨x3, x4, true⟩ : Col) = r0 := congrArg (fun p_ => p_.1) (Option.some.inj h)
    have e1_ : v14 = c0_ := congrArg (fun p_ => p_.2) (Option.some.inj h)
    subst e0_
    subst e1_
    exact ⟨[.ag [str x3, i64 x4, bo true]], _, S_, (.ob (k := m1) (o := 0) (T := 46) (cs := [str x3, i64 x4, bo true]) (by kernel_rfl) (hh.ob 1 (by kernel_rfl)) (.inl ⟨by kernel_rfl, 3, by kernel_rfl, Nat.le_of_ble_eq_true rfl, by kernel_rfl⟩) (.nil)), D.le.refl _, Store.le.refl _, rfl, (hh.sub [0] (by decide) (by kernel_rfl))⟩
  rw [if_f hc2] at h
  refine AT_region ?_
  refine seg 1 [2, 3, 15] [(15, .ob b0 0)] [1] (by kernel_rfl) (by kernel_rfl) ?_
  obtain ⟨v15, ht8, h⟩ := bs h
  refine AOps_callR _ [.ob b0 0] (tl_get rfl) rfl rfl rfl rfl Try.func35 (by decide) rfl ((.cons (D.le.refl _) (.nil))) (cursor_Cursor_Fail_s0.ok v14 _ _ b0 ((hh.have_ [0] (by decide) (by kernel_rfl)).own) _ ht8) ?_
  rintro _ S_ ⟨rfl, h2_⟩
  replace hh := hh.call [0] [1, 2] (by decide) (by kernel_rfl) h2_ rfl
  refine fg [2, 3, 16] ?_
  refine AOps_end ?_
  refine ablock_n ?_
  refine athen_n ?_
  refine zsr ?_
  refine AOps_load (T := 46) (off := 0) (cs := [str x3, i64 x4, bo false]) (.ag [str x3, i64 x4, bo false]) (tl_get rfl) rfl rfl rfl (hh.ob 2 (by kernel_rfl)) (.inl ⟨by kernel_rfl, 3, by kernel_rfl, Nat.le_of_ble_eq_true rfl, by kernel_rfl⟩) ?_
  refine fg [2, 22] ?_
  refine AOps_putV (T := 46) (off := 0) (cs := [str [], i64 0, bo false]) (ds := [str x3, i64 x4, bo false]) (cs' := [str x3, i64 x4, bo false]) (tl_get rfl) rfl rfl rfl (hh.ob 1 (by kernel_rfl)) rfl (by kernel_rfl) (Nat.le_of_ble_eq_true rfl) (LeL.refl _) (fun S_ u_ => ?_)
  replace hh := hh.obS' 1 (by kernel_rfl) u_
  refine fg0 [2] ?_
  refine zn ?_
  refine AT_ret ?_
  have e0_ : (⟨x3, x4, false⟩ : Col) = r0 := congrArg (fun p_ => p_.1) (Option.some.inj h)
  have e1_ : v15 = c0_ := congrArg (fun p_ => p_.2) (Option.some.inj h)
  subst e0_
  subst e1_
  exact ⟨[.ag [str x3, i64 x4, bo false]], _, S_, (.ob (k := m1) (o := 0) (T := 46) (cs := [str x3, i64 x4, bo false]) (by kernel_rfl) (hh.ob 1 (by kernel_rfl)) (.inl ⟨by kernel_rfl, 3, by kernel_rfl, Nat.le_of_ble_eq_true rfl, by kernel_rfl⟩) (.nil)), D.le.refl _, Store.le.refl _, rfl, (hh.sub [0] (by decide) (by kernel_rfl))⟩
mutual
def schema_Get_s0.j1 : Nat → (List Col) → (List UInt8) → Bool → Option ((List Col) × Cursor)
  | 0, _, _, _ => none
  | k + 1, x3, x7, x8 => (cursor_Cursor_Bad_s0.f (⟨x7, x8⟩ : Cursor)).bind fun v11 => (if v11 = true then (some (([] : List Col), (⟨x7, x8⟩ : Cursor))) else (some (x3, (⟨x7, x8⟩ : Cursor))))
def schema_Get_s0.l0 : Nat → Int → (List Col) → Int → (List UInt8) → Bool → Option ((List Col) × Cursor)
  | 0, _, _, _, _, _ => none
  | k + 1, v1, x3, x4, x5, x6 => if (decide (x4 < v1)) = true then ((schema_one_s0.f k (⟨x5, x6⟩ : Cursor)).bind fun q_v5 => (if (x3.length + 1) * 32 ≤ 140737488355328 then (schema_Get_s0.l0 k v1 (x3 ++ ([q_v5.1] : List Col)) (IntKind.wrap .i64 (x4 + 1)) q_v5.2.left q_v5.2.bad) else none)) else ((cell_Cols.f k x3).bind fun v9 => (if (v9 != 0) = true then ((cursor_Cursor_Fail_s0.f (⟨x5, x6⟩ : Cursor)).bind fun v10 => (schema_Get_s0.j1 k x3 v10.left v10.bad)) else (schema_Get_s0.j1 k x3 x5 x6)))
end
def schema_Get_s0.f (k : Nat) (a0 : Cursor) : Option ((List Col) × Cursor) := (varint_Len_s0.f k a0 64).bind fun q_v1 => (schema_Get_s0.l0 k q_v1.1 ([] : List Col) 0 q_v1.2.left q_v1.2.bad)
theorem schema_Get_s0.mono_l : ∀ k, (∀ y0 y1 y2, LeO (schema_Get_s0.j1 k y0 y1 y2) (schema_Get_s0.j1 (k + 1) y0 y1 y2)) ∧ (∀ y0 y1 y2 y3 y4, LeO (schema_Get_s0.l0 k y0 y1 y2 y3 y4) (schema_Get_s0.l0 (k + 1) y0 y1 y2 y3 y4))
  | 0 => ⟨fun _ _ _ r h => (by simp only [schema_Get_s0.j1] at h; cases h), fun _ _ _ _ _ r h => (by simp only [schema_Get_s0.l0] at h; cases h)⟩
  | k + 1 => by
    have ih := schema_Get_s0.mono_l k
    refine ⟨?_, ?_⟩
    · intro y0 y1 y2
      rw [schema_Get_s0.j1, schema_Get_s0.j1]
      repeat' first
        | exact LeO.refl _
        | exact LeO.none _
        | exact ih.1 _ _ _
        | exact ih.2 _ _ _ _ _
        | exact cell_Cols.mono _ _
        | exact schema_one_s0.mono _ _
        | exact varint_Len_s0.mono _ _ _
        | refine LeO.ite ?_ ?_
        | refine LeO.bind ?_ (fun _ => ?_)
    · intro y0 y1 y2 y3 y4
      rw [schema_Get_s0.l0, schema_Get_s0.l0]
      repeat' first
        | exact LeO.refl _
        | exact LeO.none _
        | exact ih.1 _ _ _
        | exact ih.2 _ _ _ _ _
        | exact cell_Cols.mono _ _
        | exact schema_one_s0.mono _ _
        | exact varint_Len_s0.mono _ _ _
        | refine LeO.ite ?_ ?_
        | refine LeO.bind ?_ (fun _ => ?_)
theorem schema_Get_s0.mono (k : Nat) (a0 : Cursor) : LeO (schema_Get_s0.f k a0) (schema_Get_s0.f (k + 1) a0) := by
  unfold schema_Get_s0.f
  repeat' first
    | exact LeO.refl _
    | exact LeO.none _
    | exact (schema_Get_s0.mono_l k).1 _ _ _
    | exact (schema_Get_s0.mono_l k).2 _ _ _ _ _
    | exact cell_Cols.mono _ _
    | exact schema_one_s0.mono _ _
    | exact varint_Len_s0.mono _ _ _
    | refine LeO.ite ?_ ?_
    | refine LeO.bind ?_ (fun _ => ?_)
theorem schema_Get_s0.ok (k : Nat) (a0 : Cursor) (S : Store) (B : List (Bool × Nat)) (b0 : Nat) (hh : Own S B S [.o b0 (.cells 77 [.sl 1 (a0.left.map eB) none, bo a0.bad])]) (r0 : (List Col)) (c0_ : Cursor) (h : schema_Get_s0.f k a0 = some (r0, c0_)) : ACalls Try.prog 20 [.ob b0 0] S (fun r_ S_ => ∃ (u0 : Nat), r_ = .sl 3 (r0.map Col.enc) (some u0) ∧ Own S B S_ [.o b0 (.cells 77 [.sl 1 (c0_.left.map eB) none, bo c0_.bad]), .t u0 (r0).length 3]) := by
  unfold schema_Get_s0.f at h
  refine acalls_of Try.func20 rfl ?_
  refine AT_forget 0x1 (mkS 22 [(0, .ob b0 0)]) (by kernel_rfl) ?_
  refine zsr ?_
  refine seg 1 [0] [] [] (by kernel_rfl) (by kernel_rfl) ?_
  refine znsr ?_
  refine seg 1 [0, 3] [(3, nilS)] [] (by kernel_rfl) (by kernel_rfl) ?_
  refine zn ?_
  refine AT_seq ?_
  refine zsr ?_
  refine seg 1 [0, 3, 4] [(4, .ob b0 0)] [1, 2] (by kernel_rfl) (by kernel_rfl) ?_
  obtain ⟨⟨v1, v2⟩, ht1, h⟩ := bs h
  simp only at h
  refine AOps_callR _ [.ob b0 0, i64 64] (tl_get rfl) rfl rfl rfl rfl Try.func21 (by decide) rfl ((.cons (D.le.refl _) (.cons (D.le.refl _) (.nil)))) (varint_Len_s0.ok _ a0 64 _ _ b0 ((hh.have_ [0] (by decide) (by kernel_rfl)).own) _ _ ht1) ?_
  rintro _ S_ ⟨rfl, h2_⟩
  replace hh := hh.call [0] [] (by decide) (by kernel_rfl) h2_ rfl
  refine fg [0, 3, 5] ?_
  refine seg 1 [0, 3, 5, 6] [(6, i64 0)] [] (by kernel_rfl) (by kernel_rfl) ?_
  refine zn ?_
  refine AT_block ?_
  refine AT_nilU 3 3 (fun tk_ => mkS 22 [(0, .ob b0 0), (3, .sl 3 [] (some tk_)), (5, i64 v1), (6, i64 0)]) (by kernel_rfl) (fun tk_ => by kernel_rfl) (fun S_ t1 hf_ u_ => ?_)
  replace hh := hh.tkN' hf_ u_ (n := (([] : List Col)).length) (by first | rfl | (simp [bytesD_len]; done) | (simp [bytesD_len]; omega))
  refine AT_loopM 0x69 (fun k_ sl_ S_ => k_ ≤ k ∧ ∃ (x3 : (List Col)), ∃ (x4 : Int), ∃ (x5 : (List UInt8)), ∃ (x6 : Bool), ∃ (tk2 : Nat), LeL sl_ (mkS 22 [(0, .ob b0 0), (3, .sl 3 (x3.map Col.enc) (some tk2)), (5, i64 v1), (6, i64 x4)]) ∧ schema_Get_s0.l0 k_ v1 x3 x4 x5 x6 = some (r0, c0_) ∧ Own S B S_ [.o b0 (.cells 77 [.sl 1 (x5.map eB) none, bo x6]), .t tk2 (x3).length 3]) k ⟨Nat.le_refl _, ([] : List Col), 0, v2.left, v2.bad, t1, (le_rf (by kernel_rfl)), h, hh⟩ ?_
  clear hh h
  rintro k' sl_ S_ ⟨hk_, x3, x4, x5, x6, tk2, hl_, h, hh⟩
  refine AT_weaken hl_ ?_
  obtain _ | k2 := k'
  · cases h
  rw [schema_Get_s0.l0] at h
  refine zsr ?_
  refine seg 1 [0, 3, 5, 6, 7] [(7, bo (decide (x4 < v1)))] [] (by kernel_rfl) (by kernel_rfl) ?_
  refine zn ?_
  refine AT_seq ?_
  refine AT_condS (decide (x4 < v1)) (by kernel_rfl) (fun hc2 => ?_) (fun hc2 => ?_)
  · rw [if_t hc2] at h
    refine zkn ?_
    refine AT_seq ?_
    refine AT_block ?_
    refine AT_region ?_
    refine seg 2 [0, 5, 6, 8, 9] [(8, .sl 3 (x3.map Col.enc) (some tk2)), (9, .ob b0 0)] [2, 3, 4, 5] (by kernel_rfl) (by kernel_rfl) ?_
    obtain ⟨⟨v5, v6⟩, ht3, h⟩ := bs h
    simp only at h
    refine AOps_callR _ [.ob b0 0] (tl_get rfl) rfl rfl rfl rfl Try.func34 (by decide) rfl ((.cons (D.le.refl _) (.nil))) (schema_one_s0.ok _ (⟨x5, x6⟩ : Cursor) _ _ b0 ((hh.have_ [0] (by decide) (by kernel_rfl)).own) _ _ ht3) ?_
    rintro _ S_ ⟨rfl, h2_⟩
    replace hh := hh.call [0] [1] (by decide) (by kernel_rfl) h2_ rfl
    refine fg [0, 5, 6, 8, 10] ?_
    refine AOps_litU (sz := 3) (es := [(Col.enc v5)]) (tl_get rfl) rfl rfl rfl (by kernel_rfl) (by decide) (by kernel_rfl) (by decide) (by kernel_rfl) (by kernel_rfl) (by intro x hx; simp only [List.mem_cons, List.not_mem_nil, or_false] at hx; rcases hx with rfl <;> rfl) (fun S_ t3 hf_ u_ => ?_)
    replace hh := hh.tkN' hf_ u_ (n := (([v5] : List Col)).length) (by first | rfl | (simp [bytesD_len]; done) | (simp [bytesD_len]; omega))
    refine fg [0, 5, 6, 8, 11] ?_
    obtain ⟨hl2, h⟩ := is h
    refine AOps_appendU (bytes := 32) (es := x3.map Col.enc) (xs := [(Col.enc v5)]) (tl := (some t3)) (x3).length (tl_get rfl) rfl rfl rfl (by kernel_rfl) rfl (hh.tk 1 (by kernel_rfl)) (by simp only [List.length_map, List.length_cons, List.length_nil]) (.inl ⟨46, by kernel_rfl, rfl⟩) (by simp only [List.length_map, bytesD_len, List.length_cons, List.length_nil]; omega) (by simp only [List.length_map, bytesD_len, List.length_cons, List.length_nil]; omega) (fun S_ u_ => ?_)
    replace hh := hh.tkS' 1 (by kernel_rfl) u_ (n := (x3 ++ ([v5] : List Col)).length) (by first | rfl | (simp [bytesD_len]; done) | (simp [bytesD_len]; omega))
    refine fg [0, 5, 6, 12] ?_
    refine tod 12 (.sl 3 ((x3.map Col.enc) ++ [(Col.enc v5)]) (some tk2)) (.sl 3 ((x3 ++ ([v5] : List Col)).map Col.enc) (some tk2)) (by kernel_rfl) (by first | rw [List.map_append]; done | (simp only [List.map_append]; done) | (simp only [List.map_append]; rfl) | (rw [List.map_append]; rfl)) ?_
    refine seg 1 [0, 3, 5, 6] [(3, .sl 3 ((x3 ++ ([v5] : List Col)).map Col.enc) (some tk2))] [] (by kernel_rfl) (by kernel_rfl) ?_
    refine AOps_end ?_
    refine ablock_n ?_
    refine athen_n ?_
    refine AT_region ?_
    refine seg 2 [0, 3, 5, 6] [(6, i64 (IntKind.wrap .i64 (x4 + 1)))] [] (by kernel_rfl) (by kernel_rfl) ?_
    refine zn ?_
    exact ⟨k2, (by omega), (by omega), x3 ++ ([v5] : List Col), IntKind.wrap .i64 (x4 + 1), v6.left, v6.bad, tk2, (le_rf (by kernel_rfl)), h, (hh.sub [0, 1] (by decide) (by kernel_rfl))⟩
  rw [if_f hc2] at h
  refine AT_exit ?_
  refine athen_e ?_
  refine athen_e ?_
  refine ablock_h ?_
  refine athen_n ?_
  refine AT_cutM 0x9 (fun sl_ S_ => ∃ (k_ : Nat), k_ ≤ k2 ∧ ∃ (x7 : (List UInt8)), ∃ (x8 : Bool), ∃ (tk3 : Nat), LeL sl_ (mkS 22 [(0, .ob b0 0), (3, .sl 3 (x3.map Col.enc) (some tk3))]) ∧ schema_Get_s0.j1 k_ x3 x7 x8 = some (r0, c0_) ∧ Own S B S_ [.o b0 (.cells 77 [.sl 1 (x7.map eB) none, bo x8]), .t tk3 (x3).length 3]) ?_ ?_
  · refine AT_seq ?_
    refine AT_region ?_
    refine seg 1 [0, 3, 14] [(14, .sl 3 (x3.map Col.enc) (some tk2))] [1, 2] (by kernel_rfl) (by kernel_rfl) ?_
    obtain ⟨v9, ht6, h⟩ := bs h
    refine AOps_callR _ [.sl 3 (x3.map Col.enc) none] (tl_get rfl) rfl rfl rfl rfl Try.func26 (by decide) rfl ((.cons (sl_le) (.nil))) (cell_Cols.ok _ x3 _  _ ht6) ?_
    rintro _ S_ ⟨rfl, h2_⟩
    replace hh := hh.call0 h2_
    refine fg [0, 3, 15] ?_
    refine seg 1 [0, 3, 16] [(16, bo (v9 != 0))] [] (by kernel_rfl) (by kernel_rfl) ?_
    refine zn ?_
    refine AT_condR (v9 != 0) (by kernel_rfl) (fun hc4 => ?_) (fun hc4 => ?_)
    · rw [if_f hc4] at h
      refine zkn ?_
      exact ⟨k2, (by omega), x5, x6, tk2, (le_rf (by kernel_rfl)), h, hh⟩
    rw [if_t hc4] at h
    refine AT_region ?_
    refine seg 1 [0, 3, 17] [(17, .ob b0 0)] [1] (by kernel_rfl) (by kernel_rfl) ?_
    obtain ⟨v10, ht7, h⟩ := bs h
    refine AOps_callR _ [.ob b0 0] (tl_get rfl) rfl rfl rfl rfl Try.func35 (by decide) rfl ((.cons (D.le.refl _) (.nil))) (cursor_Cursor_Fail_s0.ok (⟨x5, x6⟩ : Cursor) _ _ b0 ((hh.have_ [0] (by decide) (by kernel_rfl)).own) _ ht7) ?_
    rintro _ S_ ⟨rfl, h2_⟩
    replace hh := hh.call [0] [1] (by decide) (by kernel_rfl) h2_ rfl
    refine fg [0, 3, 18] ?_
    refine zn ?_
    exact ⟨k2, (by omega), v10.left, v10.bad, tk2, (le_rf (by kernel_rfl)), h, hh⟩
  clear h hh
  rintro sl_ S_ ⟨k', hk_, x7, x8, tk3, hl_, h, hh⟩
  refine AT_weaken hl_ ?_
  obtain _ | k3 := k'
  · cases h
  rw [schema_Get_s0.j1] at h
  refine AT_seq ?_
  refine zsr ?_
  refine seg 1 [3, 19] [(19, .ob b0 0)] [1] (by kernel_rfl) (by kernel_rfl) ?_
  obtain ⟨v11, ht8, h⟩ := bs h
  refine AOps_callR _ [.ob b0 0] (tl_get rfl) rfl rfl rfl rfl Try.func23 (by decide) rfl ((.cons (D.le.refl _) (.nil))) (cursor_Cursor_Bad_s0.ok (⟨x7, x8⟩ : Cursor) _ _ b0 ((hh.have_ [0] (by decide) (by kernel_rfl)).own) _ ht8) ?_
  rintro _ S_ ⟨rfl, h2_⟩
  replace hh := hh.call [0] [1] (by decide) (by kernel_rfl) h2_ rfl
  refine fg [3, 20] ?_
  refine zn ?_
  refine AT_condR v11 (by kernel_rfl) (fun hc5 => ?_) (fun hc5 => ?_)
  · rw [if_f hc5] at h
    refine zkn ?_
    refine zsr ?_
    refine seg 2 [2] [(2, .sl 3 (x3.map Col.enc) (some tk3))] [] (by kernel_rfl) (by kernel_rfl) ?_
    refine zn ?_
    refine AT_ret ?_
    have e0_ : x3 = r0 := congrArg (fun p_ => p_.1) (Option.some.inj h)
    have e1_ : (⟨x7, x8⟩ : Cursor) = c0_ := congrArg (fun p_ => p_.2) (Option.some.inj h)
    subst e0_
    subst e1_
    exact ⟨[.sl 3 (x3.map Col.enc) (some tk3)], _, S_, (.of (by kernel_rfl)), D.le.refl _, Store.le.refl _, tk3, rfl, hh⟩
  rw [if_t hc5] at h
  refine zsr ?_
  refine seg 1 [2] [(2, nilS)] [] (by kernel_rfl) (by kernel_rfl) ?_
  refine zn ?_
  refine AT_nilU 2 3 (fun tk_ => mkS 22 [(2, .sl 3 [] (some tk_))]) (by kernel_rfl) (fun tk_ => by kernel_rfl) (fun S_ t4 hf_ u_ => ?_)
  replace hh := hh.tkN' hf_ u_ (n := (([] : List Col)).length) (by first | rfl | (simp [bytesD_len]; done) | (simp [bytesD_len]; omega))
  refine AT_ret ?_
  refine athen_r ?_
  have e0_ : ([] : List Col) = r0 := congrArg (fun p_ => p_.1) (Option.some.inj h)
  have e1_ : (⟨x7, x8⟩ : Cursor) = c0_ := congrArg (fun p_ => p_.2) (Option.some.inj h)
  subst e0_
  subst e1_
  exact ⟨[.sl 3 [] (some t4)], _, S_, (.of (by kernel_rfl)), D.le.refl _, Store.le.refl _, t4, rfl, (hh.sub [0, 2] (by decide) (by kernel_rfl))⟩
end Go.Proofs.Ytfaojkajlpojlaa.Abs
