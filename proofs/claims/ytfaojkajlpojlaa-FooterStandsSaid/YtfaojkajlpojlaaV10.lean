/- What functions of the program compute, each with the proof that it does (printed by wip/gen/all2.py). -/
import Derived.Test.YtfaojkajlpojlaaV9
import Derived.KernelRfl
namespace Go.Proofs.Ytfaojkajlpojlaa.Abs
open Go
set_option maxRecDepth 100000
mutual
def stat_Get_s0.j1 : Nat → Int → (List UInt8) → Bool → Bool → Bool → Int → (List UInt8) → Int → Int → Bool → Int → (List UInt8) → Int → Int → Bool → Option (Stat × Cursor)
  | 0, _, _, _, _, _, _, _, _, _, _, _, _, _, _, _ => none
  | k + 1, v1, x1, x2, x3, x4, x5, x6, x7, x8, x9, x10, x11, x12, x13, x14 => if x14 = true then ((cursor_Cursor_Fail_s0.f (⟨x1, x2⟩ : Cursor)).bind fun v27 => (some ((⟨0, false, (⟨false, 0, [], (⟨0, 0⟩ : Point)⟩ : Cell), (⟨false, 0, [], (⟨0, 0⟩ : Point)⟩ : Cell)⟩ : Stat), v27))) else (some ((⟨v1, x3, (⟨x4, x5, x6, (⟨x7, x8⟩ : Point)⟩ : Cell), (⟨x9, x10, x11, (⟨x12, x13⟩ : Point)⟩ : Cell)⟩ : Stat), (⟨x1, x2⟩ : Cursor)))
def stat_Get_s0.j0 : Nat → Int → Int → (List UInt8) → Bool → Bool → Bool → Int → (List UInt8) → Int → Int → Bool → Int → (List UInt8) → Int → Int → Option (Stat × Cursor)
  | 0, _, _, _, _, _, _, _, _, _, _, _, _, _, _, _ => none
  | k + 1, a1, v1, x1, x2, x3, x4, x5, x6, x7, x8, x9, x10, x11, x12, x13 => (cursor_Cursor_Bad_s0.f (⟨x1, x2⟩ : Cursor)).bind fun v25 => (if v25 = true then (stat_Get_s0.j1 k v1 x1 x2 x3 x4 x5 x6 x7 x8 x9 x10 x11 x12 x13 true) else ((stat_Right.f k a1 (⟨v1, x3, (⟨x4, x5, x6, (⟨x7, x8⟩ : Point)⟩ : Cell), (⟨x9, x10, x11, (⟨x12, x13⟩ : Point)⟩ : Cell)⟩ : Stat)).bind fun v26 => (stat_Get_s0.j1 k v1 x1 x2 x3 x4 x5 x6 x7 x8 x9 x10 x11 x12 x13 (!v26))))
end
def stat_Get_s0.f (k : Nat) (a0 : Cursor) (a1 : Int) : Option (Stat × Cursor) := (varint_Len_s0.f k a0 65536).bind fun q_v1 => ((cursor_Cursor_Byte_s0.f k q_v1.2).bind fun q_v13 => (if ((q_v13.1.toNat : Int) == 0) = true then (stat_Get_s0.j0 k a1 q_v1.1 q_v13.2.left q_v13.2.bad false false 0 [] 0 0 false 0 [] 0 0) else (if ((q_v13.1.toNat : Int) == 1) = true then ((varint_Len_s0.f k q_v13.2 262144).bind fun q_v15 => ((cursor_Cursor_Take_s0.f q_v15.2 q_v15.1).bind fun q_v17 => ((plain_Decode.f k a1 q_v17.1 2).bind fun q_v19 => (if (!q_v19.2) = true then ((cursor_Cursor_Fail_s0.f q_v17.2).bind fun v21 => (some ((⟨0, false, (⟨false, 0, [], (⟨0, 0⟩ : Point)⟩ : Cell), (⟨false, 0, [], (⟨0, 0⟩ : Point)⟩ : Cell)⟩ : Stat), v21))) else (if 0 ≤ (0 : Int) ∧ (0 : Int) < (q_v19.1.length : Int) then (if 0 ≤ (1 : Int) ∧ (1 : Int) < (q_v19.1.length : Int) then (stat_Get_s0.j0 k a1 q_v1.1 q_v17.2.left q_v17.2.bad true ((rd q_v19.1 0 Cell.zero).Null) ((rd q_v19.1 0 Cell.zero).Int) ((rd q_v19.1 0 Cell.zero).Text) (((rd q_v19.1 0 Cell.zero).At).X) (((rd q_v19.1 0 Cell.zero).At).Y) ((rd q_v19.1 1 Cell.zero).Null) ((rd q_v19.1 1 Cell.zero).Int) ((rd q_v19.1 1 Cell.zero).Text) (((rd q_v19.1 1 Cell.zero).At).X) (((rd q_v19.1 1 Cell.zero).At).Y)) else none) else none))))) else ((cursor_Cursor_Fail_s0.f q_v13.2).bind fun v22 => (stat_Get_s0.j0 k a1 q_v1.1 v22.left v22.bad false false 0 [] 0 0 false 0 [] 0 0)))))
theorem stat_Get_s0.mono_l : ∀ k, (∀ y0 y1 y2 y3 y4 y5 y6 y7 y8 y9 y10 y11 y12 y13 y14, LeO (stat_Get_s0.j1 k y0 y1 y2 y3 y4 y5 y6 y7 y8 y9 y10 y11 y12 y13 y14) (stat_Get_s0.j1 (k + 1) y0 y1 y2 y3 y4 y5 y6 y7 y8 y9 y10 y11 y12 y13 y14)) ∧ (∀ y0 y1 y2 y3 y4 y5 y6 y7 y8 y9 y10 y11 y12 y13 y14, LeO (stat_Get_s0.j0 k y0 y1 y2 y3 y4 y5 y6 y7 y8 y9 y10 y11 y12 y13 y14) (stat_Get_s0.j0 (k + 1) y0 y1 y2 y3 y4 y5 y6 y7 y8 y9 y10 y11 y12 y13 y14))
  | 0 => ⟨fun _ _ _ _ _ _ _ _ _ _ _ _ _ _ _ r h => (by simp only [stat_Get_s0.j1] at h; cases h), fun _ _ _ _ _ _ _ _ _ _ _ _ _ _ _ r h => (by simp only [stat_Get_s0.j0] at h; cases h)⟩
  | k + 1 => by
    have ih := stat_Get_s0.mono_l k
    refine ⟨?_, ?_⟩
    · intro y0 y1 y2 y3 y4 y5 y6 y7 y8 y9 y10 y11 y12 y13 y14
      rw [stat_Get_s0.j1, stat_Get_s0.j1]
      repeat' first
        | exact LeO.refl _
        | exact LeO.none _
        | exact ih.1 _ _ _ _ _ _ _ _ _ _ _ _ _ _ _
        | exact ih.2 _ _ _ _ _ _ _ _ _ _ _ _ _ _ _
        | exact cursor_Cursor_Byte_s0.mono _ _
        | exact plain_Decode.mono _ _ _ _
        | exact stat_Right.mono _ _ _
        | exact varint_Len_s0.mono _ _ _
        | refine LeO.ite ?_ ?_
        | refine LeO.bind ?_ (fun _ => ?_)
    · intro y0 y1 y2 y3 y4 y5 y6 y7 y8 y9 y10 y11 y12 y13 y14
      rw [stat_Get_s0.j0, stat_Get_s0.j0]
      repeat' first
        | exact LeO.refl _
        | exact LeO.none _
        | exact ih.1 _ _ _ _ _ _ _ _ _ _ _ _ _ _ _
        | exact ih.2 _ _ _ _ _ _ _ _ _ _ _ _ _ _ _
        | exact cursor_Cursor_Byte_s0.mono _ _
        | exact plain_Decode.mono _ _ _ _
        | exact stat_Right.mono _ _ _
        | exact varint_Len_s0.mono _ _ _
        | refine LeO.ite ?_ ?_
        | refine LeO.bind ?_ (fun _ => ?_)
theorem stat_Get_s0.mono (k : Nat) (a0 : Cursor) (a1 : Int) : LeO (stat_Get_s0.f k a0 a1) (stat_Get_s0.f (k + 1) a0 a1) := by
  unfold stat_Get_s0.f
  repeat' first
    | exact LeO.refl _
    | exact LeO.none _
    | exact (stat_Get_s0.mono_l k).1 _ _ _ _ _ _ _ _ _ _ _ _ _ _ _
    | exact (stat_Get_s0.mono_l k).2 _ _ _ _ _ _ _ _ _ _ _ _ _ _ _
    | exact cursor_Cursor_Byte_s0.mono _ _
    | exact plain_Decode.mono _ _ _ _
    | exact stat_Right.mono _ _ _
    | exact varint_Len_s0.mono _ _ _
    | refine LeO.ite ?_ ?_
    | refine LeO.bind ?_ (fun _ => ?_)
theorem stat_Get_s0.ok (k : Nat) (a0 : Cursor) (a1 : Int) (S : Store) (B : List (Bool × Nat)) (b0 : Nat) (hh : Own S B S [.o b0 (.cells 77 [.sl 1 (a0.left.map eB) none, bo a0.bad])]) (r0 : Stat) (c0_ : Cursor) (h : stat_Get_s0.f k a0 a1 = some (r0, c0_)) : ACalls Try.prog 22 [.ob b0 0, i64 a1] S (fun r_ S_ => r_ = .ag (Stat.enc r0) ∧ Own S B S_ [.o b0 (.cells 77 [.sl 1 (c0_.left.map eB) none, bo c0_.bad])]) := by
  unfold stat_Get_s0.f at h
  refine acalls_of Try.func22 rfl ?_
  refine AT_forget 0x3 (mkS 54 [(0, .ob b0 0), (1, i64 a1)]) (by kernel_rfl) ?_
  refine zsr ?_
  refine AOps_allocV (ds := [i64 0, bo false, bo false, i64 0, str [], i64 0, i64 0, bo false, i64 0, str [], i64 0, i64 0]) (cs' := [i64 0, bo false, bo false, i64 0, str [], i64 0, i64 0, bo false, i64 0, str [], i64 0, i64 0]) (tl_get rfl) rfl rfl (by kernel_rfl) (LeL.refl _) (fun S_ m1 hf_ u_ => ?_)
  replace hh := hh.obN hf_ u_
  refine fg [0, 1, 4] ?_
  refine znsr ?_
  refine seg 1 [0, 1, 4, 8] [(8, .ob b0 0)] [1, 2, 3, 4] (by kernel_rfl) (by kernel_rfl) ?_
  obtain ⟨⟨v1, v2⟩, ht1, h⟩ := bs h
  simp only at h
  refine AOps_callR _ [.ob b0 0, i64 65536] (tl_get rfl) rfl rfl rfl rfl Try.func21 (by decide) rfl ((.cons (D.le.refl _) (.cons (D.le.refl _) (.nil)))) (varint_Len_s0.ok _ a0 65536 _ _ b0 ((hh.have_ [0] (by decide) (by kernel_rfl)).own) _ _ ht1) ?_
  rintro _ S_ ⟨rfl, h2_⟩
  replace hh := hh.call [0] [1] (by decide) (by kernel_rfl) h2_ rfl
  refine fg [0, 1, 4, 9] ?_
  refine seg 1 [0, 1, 4, 10] [(10, .ag [i64 v1, bo false, bo false, i64 0, str [], i64 0, i64 0, bo false, i64 0, str [], i64 0, i64 0])] [3, 4] (by kernel_rfl) (by kernel_rfl) ?_
  refine AOps_allocV (ds := [i64 0, bo false, bo false, i64 0, str [], i64 0, i64 0, bo false, i64 0, str [], i64 0, i64 0]) (cs' := [i64 0, bo false, bo false, i64 0, str [], i64 0, i64 0, bo false, i64 0, str [], i64 0, i64 0]) (tl_get rfl) rfl rfl (by kernel_rfl) (LeL.refl _) (fun S_ m2 hf_ u_ => ?_)
  replace hh := hh.obN hf_ u_
  refine fg [0, 1, 4, 5, 10] ?_
  refine AOps_putV (T := 42) (off := 0) (cs := [i64 0, bo false, bo false, i64 0, str [], i64 0, i64 0, bo false, i64 0, str [], i64 0, i64 0]) (ds := [i64 v1, bo false, bo false, i64 0, str [], i64 0, i64 0, bo false, i64 0, str [], i64 0, i64 0]) (cs' := [i64 v1, bo false, bo false, i64 0, str [], i64 0, i64 0, bo false, i64 0, str [], i64 0, i64 0]) (tl_get rfl) rfl rfl rfl (hh.ob 2 (by kernel_rfl)) rfl (by kernel_rfl) (Nat.le_of_ble_eq_true rfl) (LeL.refl _) (fun S_ u_ => ?_)
  replace hh := hh.obS' 2 (by kernel_rfl) u_
  refine fg0 [0, 1, 4, 5] ?_
  refine zn ?_
  refine AT_cutM 0x33 (fun sl_ S_ => ∃ (k_ : Nat), k_ ≤ k ∧ ∃ (x1 : (List UInt8)), ∃ (x2 : Bool), ∃ (x3 : Bool), ∃ (x4 : Bool), ∃ (x5 : Int), ∃ (x6 : (List UInt8)), ∃ (x7 : Int), ∃ (x8 : Int), ∃ (x9 : Bool), ∃ (x10 : Int), ∃ (x11 : (List UInt8)), ∃ (x12 : Int), ∃ (x13 : Int), LeL sl_ (mkS 54 [(0, .ob b0 0), (1, i64 a1), (4, .ob m1 0), (5, .ob m2 0)]) ∧ stat_Get_s0.j0 k_ a1 v1 x1 x2 x3 x4 x5 x6 x7 x8 x9 x10 x11 x12 x13 = some (r0, c0_) ∧ Own S B S_ [.o b0 (.cells 77 [.sl 1 (x1.map eB) none, bo x2]), .o m1 (.cells 42 [i64 0, bo false, bo false, i64 0, str [], i64 0, i64 0, bo false, i64 0, str [], i64 0, i64 0]), .o m2 (.cells 42 [i64 v1, bo x3, bo x4, i64 x5, str x6, i64 x7, i64 x8, bo x9, i64 x10, str x11, i64 x12, i64 x13])]) ?_ ?_
  · refine AT_seq ?_
    refine AT_region ?_
    refine seg 1 [0, 1, 4, 5, 11] [(11, .ob b0 0)] [1] (by kernel_rfl) (by kernel_rfl) ?_
    obtain ⟨⟨v13, v14⟩, ht8, h⟩ := bs h
    simp only at h
    refine AOps_callR _ [.ob b0 0] (tl_get rfl) rfl rfl rfl rfl Try.func37 (by decide) rfl ((.cons (D.le.refl _) (.nil))) (cursor_Cursor_Byte_s0.ok _ v2 _ _ b0 ((hh.have_ [0] (by decide) (by kernel_rfl)).own) _ _ ht8) ?_
    rintro _ S_ ⟨rfl, h2_⟩
    replace hh := hh.call [0] [1, 2] (by decide) (by kernel_rfl) h2_ rfl
    refine fg [0, 1, 4, 5, 12] ?_
    refine zn ?_
    refine AT_block ?_
    refine zsr ?_
    refine AOps_seg 2 0x9033 (mkS 54 [(0, .ob b0 0), (1, i64 a1), (4, .ob m1 0), (5, .ob m2 0), (12, u8 (v13.toNat : Int)), (15, bo ((v13.toNat : Int) == 0))]) none [] (by kernel_rfl) (by kernel_rfl) trivial ?_
    refine zn ?_
    refine AT_condS ((v13.toNat : Int) == 0) (by kernel_rfl) (fun hc4 => ?_) (fun hc4 => ?_)
    · rw [if_t hc4] at h
      refine AT_skip ?_
      refine ablock_n ?_
      refine athen_n ?_
      exact ⟨k, (by omega), v14.left, v14.bad, false, false, 0, [], 0, 0, false, 0, [], 0, 0, (le_rf (by kernel_rfl)), h, hh⟩
    rw [if_f hc4] at h
    refine zsr ?_
    refine seg 2 [0, 1, 4, 5, 17] [(17, bo ((v13.toNat : Int) == 1))] [] (by kernel_rfl) (by kernel_rfl) ?_
    refine zn ?_
    refine AT_condR ((v13.toNat : Int) == 1) (by kernel_rfl) (fun hc5 => ?_) (fun hc5 => ?_)
    · rw [if_f hc5] at h
      refine AT_region ?_
      refine seg 1 [0, 1, 4, 5, 13] [(13, .ob b0 0)] [1] (by kernel_rfl) (by kernel_rfl) ?_
      obtain ⟨v22, ht13, h⟩ := bs h
      refine AOps_callR _ [.ob b0 0] (tl_get rfl) rfl rfl rfl rfl Try.func35 (by decide) rfl ((.cons (D.le.refl _) (.nil))) (cursor_Cursor_Fail_s0.ok v14 _ _ b0 ((hh.have_ [0] (by decide) (by kernel_rfl)).own) _ ht13) ?_
      rintro _ S_ ⟨rfl, h2_⟩
      replace hh := hh.call [0] [1, 2] (by decide) (by kernel_rfl) h2_ rfl
      refine fg [0, 1, 4, 5, 14] ?_
      refine AOps_end ?_
      refine ablock_n ?_
      refine athen_n ?_
      exact ⟨k, (by omega), v22.left, v22.bad, false, false, 0, [], 0, 0, false, 0, [], 0, 0, (le_rf (by kernel_rfl)), h, hh⟩
    rw [if_t hc5] at h
    refine zsr ?_
    refine seg 3 [0, 1, 4, 5, 20, 21, 22] [(20, i64 a1), (21, .ob b0 0), (22, .ob b0 0)] [3, 4, 5, 6, 7, 8, 9, 10] (by kernel_rfl) (by kernel_rfl) ?_
    obtain ⟨⟨v15, v16⟩, ht9, h⟩ := bs h
    simp only at h
    refine AOps_callR _ [.ob b0 0, i64 262144] (tl_get rfl) rfl rfl rfl rfl Try.func21 (by decide) rfl ((.cons (D.le.refl _) (.cons (D.le.refl _) (.nil)))) (varint_Len_s0.ok _ v14 262144 _ _ b0 ((hh.have_ [0] (by decide) (by kernel_rfl)).own) _ _ ht9) ?_
    rintro _ S_ ⟨rfl, h2_⟩
    replace hh := hh.call [0] [1, 2] (by decide) (by kernel_rfl) h2_ rfl
    refine fg [0, 1, 4, 5, 20, 21, 23] ?_
    obtain ⟨⟨v17, v18⟩, ht10, h⟩ := bs h
    simp only at h
    refine AOps_callR _ [.ob b0 0, i64 v15] (tl_get rfl) rfl rfl rfl rfl Try.func39 (by decide) rfl ((.cons (D.le.refl _) (.cons (D.le.refl _) (.nil)))) (cursor_Cursor_Take_s0.ok v16 v15 _ _ b0 ((hh.have_ [0] (by decide) (by kernel_rfl)).own) _ _ ht10) ?_
    rintro _ S_ ⟨t3, rfl, h2_⟩
    replace hh := hh.call [0] [1, 2] (by decide) (by kernel_rfl) h2_ rfl
    refine fg [0, 1, 4, 5, 20, 24] ?_
    obtain ⟨⟨v19, v20⟩, ht11, h⟩ := bs h
    simp only at h
    refine AOps_callR _ [i64 a1, .sl 1 (v17.map eB) none, i64 2] (tl_get rfl) rfl rfl rfl rfl Try.func38 (by decide) rfl ((.cons (D.le.refl _) (.cons (sl_le) (.cons (D.le.refl _) (.nil))))) (plain_Decode.ok _ a1 v17 2 _  _ _ ht11) ?_
    rintro _ S_ ⟨t4, rfl, h2_⟩
    replace hh := hh.calln h2_
    refine fg [0, 1, 4, 5, 25] ?_
    refine seg 5 [0, 1, 4, 5, 6, 7] [(6, .sl 5 (v19.map Cell.enc) (some t4)), (7, bo v20)] [] (by kernel_rfl) (by kernel_rfl) ?_
    refine zn ?_
    refine AT_seq ?_
    refine zsr ?_
    refine seg 2 [0, 1, 4, 5, 6, 29] [(29, bo (!v20))] [] (by kernel_rfl) (by kernel_rfl) ?_
    refine zn ?_
    refine AT_condS (!v20) (by kernel_rfl) (fun hc6 => ?_) (fun hc6 => ?_)
    · rw [if_t hc6] at h
      refine zsr ?_
      refine seg 1 [4, 30] [(30, .ob b0 0)] [1] (by kernel_rfl) (by kernel_rfl) ?_
      obtain ⟨v21, ht12, h⟩ := bs h
      refine AOps_callR _ [.ob b0 0] (tl_get rfl) rfl rfl rfl rfl Try.func35 (by decide) rfl ((.cons (D.le.refl _) (.nil))) (cursor_Cursor_Fail_s0.ok v18 _ _ b0 ((hh.have_ [1] (by decide) (by kernel_rfl)).own) _ ht12) ?_
      rintro _ S_ ⟨rfl, h2_⟩
      replace hh := hh.call [1] [0, 2, 3, 4] (by decide) (by kernel_rfl) h2_ rfl
      refine AOps_forget 0x80000010 (mkS 54 [(4, .ob m1 0), (31, .tup [])]) (by kernel_rfl) ?_
      refine znsr ?_
      refine seg 1 [4, 32] [(32, .ag [i64 0, bo false, bo false, i64 0, str [], i64 0, i64 0, bo false, i64 0, str [], i64 0, i64 0])] [1] (by kernel_rfl) (by kernel_rfl) ?_
      refine AOps_putV (T := 42) (off := 0) (cs := [i64 0, bo false, bo false, i64 0, str [], i64 0, i64 0, bo false, i64 0, str [], i64 0, i64 0]) (ds := [i64 0, bo false, bo false, i64 0, str [], i64 0, i64 0, bo false, i64 0, str [], i64 0, i64 0]) (cs' := [i64 0, bo false, bo false, i64 0, str [], i64 0, i64 0, bo false, i64 0, str [], i64 0, i64 0]) (tl_get rfl) rfl rfl rfl (hh.ob 3 (by kernel_rfl)) rfl (by kernel_rfl) (Nat.le_of_ble_eq_true rfl) (LeL.refl _) (fun S_ u_ => ?_)
      replace hh := hh.obS' 3 (by kernel_rfl) u_
      refine fg0 [4] ?_
      refine zn ?_
      refine AT_ret ?_
      refine athen_r ?_
      refine ablock_r ?_
      refine athen_r ?_
      have e0_ : (⟨0, false, (⟨false, 0, [], (⟨0, 0⟩ : Point)⟩ : Cell), (⟨false, 0, [], (⟨0, 0⟩ : Point)⟩ : Cell)⟩ : Stat) = r0 := congrArg (fun p_ => p_.1) (Option.some.inj h)
      have e1_ : v21 = c0_ := congrArg (fun p_ => p_.2) (Option.some.inj h)
      subst e0_
      subst e1_
      exact ⟨[.ag [i64 0, bo false, bo false, i64 0, str [], i64 0, i64 0, bo false, i64 0, str [], i64 0, i64 0]], _, S_, (.ob (k := m1) (o := 0) (T := 42) (cs := [i64 0, bo false, bo false, i64 0, str [], i64 0, i64 0, bo false, i64 0, str [], i64 0, i64 0]) (by kernel_rfl) (hh.ob 3 (by kernel_rfl)) (.inl ⟨by kernel_rfl, 12, by kernel_rfl, Nat.le_of_ble_eq_true rfl, by kernel_rfl⟩) (.nil)), D.le.refl _, Store.le.refl _, rfl, (hh.sub [0] (by decide) (by kernel_rfl))⟩
    rw [if_f hc6] at h
    refine zkn ?_
    refine AT_draw [7, 9, 11] 12 (fun _ => True) (by kernel_rfl) ?_
    refine aseg 12 [] [0, 1, 4, 5, 6] [] #[false, false, false, false, false, false, false, false, false, false, false, false] (by kernel_rfl) (by kernel_rfl) ?_
    obtain ⟨hi3, h⟩ := is h
    refine AAny_seg 10 [0, 1] 0x3fc00000073 (mkS 54 [(0, .ob b0 0), (1, i64 a1), (4, .ob m1 0), (5, .ob m2 0), (6, .sl 5 (v19.map Cell.enc) (some t4)), (34, .pt ((v19.map Cell.enc).getD (0 : Int).toNat []))]) (some (0 ≤ (0 : Int) ∧ (0 : Int) < ((v19.map Cell.enc).length : Int))) #[true, true, false, false, false, false, false, false, false, false, false, false] (by kernel_rfl) (idx_ok hi3) (by kernel_rfl) ?_
    refine atod 34 (.pt ((v19.map Cell.enc).getD (0 : Int).toNat [])) (.pt (Cell.enc (rd v19 0 Cell.zero))) (by kernel_rfl) (by rw [pt_rd Cell.enc v19 0 Cell.zero hi3.1 hi3.2]) ?_
    obtain ⟨hi4, h⟩ := is h
    refine asegc 7 [2, 3, 4] [0, 1, 4, 5, 35, 37] [(35, .ag (Cell.enc (rd v19 0 Cell.zero))), (37, .pt ((v19.map Cell.enc).getD (1 : Int).toNat []))] (0 ≤ (1 : Int) ∧ (1 : Int) < ((v19.map Cell.enc).length : Int)) #[true, true, true, true, true, false, false, false, false, false, false, false] (by kernel_rfl) (idx_ok hi4) (by kernel_rfl) ?_
    refine atod 37 (.pt ((v19.map Cell.enc).getD (1 : Int).toNat [])) (.pt (Cell.enc (rd v19 1 Cell.zero))) (by kernel_rfl) (by rw [pt_rd Cell.enc v19 1 Cell.zero hi4.1 hi4.2]) ?_
    refine aseg 5 [5, 6] [0, 1, 4, 5, 35, 38, 39] [(38, .ag (Cell.enc (rd v19 1 Cell.zero))), (39, .ob m2 1)] #[true, true, true, true, true, true, true, false, false, false, false, false] (by kernel_rfl) (by kernel_rfl) ?_
    refine AAny_eff (fuel := 4) 7 (.inr trivial) (tl_get rfl) (by kernel_rfl) (by kernel_rfl) (by kernel_rfl) ?_
    refine AOps_putV (T := 42) (off := 1) (cs := [i64 v1, bo false, bo false, i64 0, str [], i64 0, i64 0, bo false, i64 0, str [], i64 0, i64 0]) (ds := [bo true]) (cs' := [i64 v1, bo true, bo false, i64 0, str [], i64 0, i64 0, bo false, i64 0, str [], i64 0, i64 0]) (tl_get rfl) rfl rfl rfl (hh.ob 4 (by kernel_rfl)) rfl (by kernel_rfl) (Nat.le_of_ble_eq_true rfl) (LeL.refl _) (fun S_ u_ => ?_)
    replace hh := hh.obS' 4 (by kernel_rfl) u_
    refine AOps_end ⟨rfl, _, rfl, ?_⟩; refine afg0 [0, 1, 4, 5, 35, 38] #[true, true, true, true, true, true, true, true, false, false, false, false] (by kernel_rfl) ?_
    refine aseg 3 [8] [0, 1, 4, 5, 35, 38, 40] [(40, .ob m2 2)] #[true, true, true, true, true, true, true, true, true, false, false, false] (by kernel_rfl) (by kernel_rfl) ?_
    refine AAny_eff (fuel := 2) 9 (.inr trivial) (tl_get rfl) (by kernel_rfl) (by kernel_rfl) (by kernel_rfl) ?_
    refine AOps_putV (T := 42) (off := 2) (cs := [i64 v1, bo true, bo false, i64 0, str [], i64 0, i64 0, bo false, i64 0, str [], i64 0, i64 0]) (ds := (Cell.enc (rd v19 0 Cell.zero))) (cs' := [i64 v1, bo true, bo ((rd v19 0 Cell.zero).Null), i64 ((rd v19 0 Cell.zero).Int), str ((rd v19 0 Cell.zero).Text), i64 (((rd v19 0 Cell.zero).At).X), i64 (((rd v19 0 Cell.zero).At).Y), bo false, i64 0, str [], i64 0, i64 0]) (tl_get rfl) rfl rfl rfl (hh.ob 4 (by kernel_rfl)) rfl (by kernel_rfl) (Nat.le_of_ble_eq_true rfl) (LeL.refl _) (fun S_ u_ => ?_)
    replace hh := hh.obS' 4 (by kernel_rfl) u_
    refine AOps_end ⟨rfl, _, rfl, ?_⟩; refine afg0 [0, 1, 4, 5, 38] #[true, true, true, true, true, true, true, true, true, true, false, false] (by kernel_rfl) ?_
    refine aseg 1 [10] [0, 1, 4, 5, 38, 41] [(41, .ob m2 7)] #[true, true, true, true, true, true, true, true, true, true, true, false] (by kernel_rfl) (by kernel_rfl) ?_
    refine AAny_eff (fuel := 0) 11 (.inr trivial) (tl_get rfl) (by kernel_rfl) (by kernel_rfl) (by kernel_rfl) ?_
    refine AOps_putV (T := 42) (off := 7) (cs := [i64 v1, bo true, bo ((rd v19 0 Cell.zero).Null), i64 ((rd v19 0 Cell.zero).Int), str ((rd v19 0 Cell.zero).Text), i64 (((rd v19 0 Cell.zero).At).X), i64 (((rd v19 0 Cell.zero).At).Y), bo false, i64 0, str [], i64 0, i64 0]) (ds := (Cell.enc (rd v19 1 Cell.zero))) (cs' := [i64 v1, bo true, bo ((rd v19 0 Cell.zero).Null), i64 ((rd v19 0 Cell.zero).Int), str ((rd v19 0 Cell.zero).Text), i64 (((rd v19 0 Cell.zero).At).X), i64 (((rd v19 0 Cell.zero).At).Y), bo ((rd v19 1 Cell.zero).Null), i64 ((rd v19 1 Cell.zero).Int), str ((rd v19 1 Cell.zero).Text), i64 (((rd v19 1 Cell.zero).At).X), i64 (((rd v19 1 Cell.zero).At).Y)]) (tl_get rfl) rfl rfl rfl (hh.ob 4 (by kernel_rfl)) rfl (by kernel_rfl) (Nat.le_of_ble_eq_true rfl) (LeL.refl _) (fun S_ u_ => ?_)
    replace hh := hh.obS' 4 (by kernel_rfl) u_
    refine AOps_end ⟨rfl, _, rfl, ?_⟩; refine afg0 [0, 1, 4, 5] #[true, true, true, true, true, true, true, true, true, true, true, true] (by kernel_rfl) ?_
    refine AAny_end (.inr trivial) (by kernel_rfl) ?_
    refine ablock_n ?_
    refine athen_n ?_
    exact ⟨k, (by omega), v18.left, v18.bad, true, (rd v19 0 Cell.zero).Null, (rd v19 0 Cell.zero).Int, (rd v19 0 Cell.zero).Text, ((rd v19 0 Cell.zero).At).X, ((rd v19 0 Cell.zero).At).Y, (rd v19 1 Cell.zero).Null, (rd v19 1 Cell.zero).Int, (rd v19 1 Cell.zero).Text, ((rd v19 1 Cell.zero).At).X, ((rd v19 1 Cell.zero).At).Y, (le_rf (by kernel_rfl)), h, (hh.sub [1, 3, 4] (by decide) (by kernel_rfl))⟩
  clear h hh
  rintro sl_ S_ ⟨k', hk_, x1, x2, x3, x4, x5, x6, x7, x8, x9, x10, x11, x12, x13, hl_, h, hh⟩
  refine AT_weaken hl_ ?_
  obtain _ | k1 := k'
  · cases h
  rw [stat_Get_s0.j0] at h
  refine AT_seq ?_
  refine AT_cutM 0x2000000000031 (fun sl_ S_ => ∃ (k_ : Nat), k_ ≤ k1 ∧ ∃ (x14 : Bool), LeL sl_ (mkS 54 [(0, .ob b0 0), (4, .ob m1 0), (5, .ob m2 0), (49, bo x14)]) ∧ stat_Get_s0.j1 k_ v1 x1 x2 x3 x4 x5 x6 x7 x8 x9 x10 x11 x12 x13 x14 = some (r0, c0_) ∧ Own S B S_ [.o b0 (.cells 77 [.sl 1 (((⟨x1, x2⟩ : Cursor).left).map eB) none, bo ((⟨x1, x2⟩ : Cursor).bad)]), .o m1 (.cells 42 [i64 0, bo false, bo false, i64 0, str [], i64 0, i64 0, bo false, i64 0, str [], i64 0, i64 0]), .o m2 (.cells 42 [i64 v1, bo x3, bo x4, i64 x5, str x6, i64 x7, i64 x8, bo x9, i64 x10, str x11, i64 x12, i64 x13])]) ?_ ?_
  · refine AT_region ?_
    refine seg 1 [0, 1, 4, 5, 42] [(42, .ob b0 0)] [1, 2, 3, 4, 5, 6, 7] (by kernel_rfl) (by kernel_rfl) ?_
    obtain ⟨v25, ht16, h⟩ := bs h
    refine AOps_callR _ [.ob b0 0] (tl_get rfl) rfl rfl rfl rfl Try.func23 (by decide) rfl ((.cons (D.le.refl _) (.nil))) (cursor_Cursor_Bad_s0.ok (⟨x1, x2⟩ : Cursor) _ _ b0 ((hh.have_ [0] (by decide) (by kernel_rfl)).own) _ ht16) ?_
    rintro _ S_ ⟨rfl, h2_⟩
    replace hh := hh.call [0] [1, 2] (by decide) (by kernel_rfl) h2_ rfl
    refine fg [0, 1, 4, 5, 43] ?_
    refine seg 1 [0, 1, 4, 5, 44] [(44, bo v25)] [3, 4, 5, 6, 7] (by kernel_rfl) (by kernel_rfl) ?_
    refine cased 44 v25 (by kernel_rfl) (fun hc8 => ?_) (fun hc8 => ?_)
    · rw [if_t hc8] at h
      refine seg 5 [0, 4, 5, 49] [(49, bo true)] [] (by kernel_rfl) (by kernel_rfl) ?_
      refine zn ?_
      exact ⟨k1, (by omega), true, (le_rf (by kernel_rfl)), h, hh⟩
    rw [if_f hc8] at h
    refine seg 1 [0, 4, 5, 44, 45] [(45, i64 a1)] [4, 5, 6, 7] (by kernel_rfl) (by kernel_rfl) ?_
    refine AOps_load (T := 42) (off := 0) (cs := [i64 v1, bo x3, bo x4, i64 x5, str x6, i64 x7, i64 x8, bo x9, i64 x10, str x11, i64 x12, i64 x13]) (.ag [i64 v1, bo x3, bo x4, i64 x5, str x6, i64 x7, i64 x8, bo x9, i64 x10, str x11, i64 x12, i64 x13]) (tl_get rfl) rfl rfl rfl (hh.ob 2 (by kernel_rfl)) (.inl ⟨by kernel_rfl, 12, by kernel_rfl, Nat.le_of_ble_eq_true rfl, by kernel_rfl⟩) ?_
    refine fg [0, 4, 5, 44, 45, 46] ?_
    obtain ⟨v26, ht17, h⟩ := bs h
    refine AOps_callR _ [i64 a1, .ag (Stat.enc (⟨v1, x3, (⟨x4, x5, x6, (⟨x7, x8⟩ : Point)⟩ : Cell), (⟨x9, x10, x11, (⟨x12, x13⟩ : Point)⟩ : Cell)⟩ : Stat))] (tl_get rfl) rfl rfl rfl rfl Try.func32 (by decide) rfl ((.cons (D.le.refl _) (.cons (D.le.refl _) (.nil)))) (stat_Right.ok _ a1 (⟨v1, x3, (⟨x4, x5, x6, (⟨x7, x8⟩ : Point)⟩ : Cell), (⟨x9, x10, x11, (⟨x12, x13⟩ : Point)⟩ : Cell)⟩ : Stat) _  _ ht17) ?_
    rintro _ S_ ⟨rfl, h2_⟩
    replace hh := hh.call0 h2_
    refine fg [0, 4, 5, 44, 47] ?_
    refine seg 2 [0, 4, 5, 49] [(49, bo (!v26))] [] (by kernel_rfl) (by kernel_rfl) ?_
    refine zn ?_
    exact ⟨k1, (by omega), !v26, (le_rf (by kernel_rfl)), h, hh⟩
  clear h hh
  rintro sl_ S_ ⟨k', hk_, x14, hl_, h, hh⟩
  refine AT_weaken hl_ ?_
  obtain _ | k2 := k'
  · cases h
  rw [stat_Get_s0.j1] at h
  refine AT_condR x14 (by kernel_rfl) (fun hc9 => ?_) (fun hc9 => ?_)
  · rw [if_f hc9] at h
    refine zkn ?_
    refine zsr ?_
    refine AOps_load (T := 42) (off := 0) (cs := [i64 v1, bo x3, bo x4, i64 x5, str x6, i64 x7, i64 x8, bo x9, i64 x10, str x11, i64 x12, i64 x13]) (.ag [i64 v1, bo x3, bo x4, i64 x5, str x6, i64 x7, i64 x8, bo x9, i64 x10, str x11, i64 x12, i64 x13]) (tl_get rfl) rfl rfl rfl (hh.ob 2 (by kernel_rfl)) (.inl ⟨by kernel_rfl, 12, by kernel_rfl, Nat.le_of_ble_eq_true rfl, by kernel_rfl⟩) ?_
    refine fg [4, 53] ?_
    refine AOps_putV (T := 42) (off := 0) (cs := [i64 0, bo false, bo false, i64 0, str [], i64 0, i64 0, bo false, i64 0, str [], i64 0, i64 0]) (ds := [i64 v1, bo x3, bo x4, i64 x5, str x6, i64 x7, i64 x8, bo x9, i64 x10, str x11, i64 x12, i64 x13]) (cs' := [i64 v1, bo x3, bo x4, i64 x5, str x6, i64 x7, i64 x8, bo x9, i64 x10, str x11, i64 x12, i64 x13]) (tl_get rfl) rfl rfl rfl (hh.ob 1 (by kernel_rfl)) rfl (by kernel_rfl) (Nat.le_of_ble_eq_true rfl) (LeL.refl _) (fun S_ u_ => ?_)
    replace hh := hh.obS' 1 (by kernel_rfl) u_
    refine fg0 [4] ?_
    refine zn ?_
    refine AT_ret ?_
    have e0_ : (⟨v1, x3, (⟨x4, x5, x6, (⟨x7, x8⟩ : Point)⟩ : Cell), (⟨x9, x10, x11, (⟨x12, x13⟩ : Point)⟩ : Cell)⟩ : Stat) = r0 := congrArg (fun p_ => p_.1) (Option.some.inj h)
    have e1_ : (⟨x1, x2⟩ : Cursor) = c0_ := congrArg (fun p_ => p_.2) (Option.some.inj h)
    subst e0_
    subst e1_
    exact ⟨[.ag [i64 v1, bo x3, bo x4, i64 x5, str x6, i64 x7, i64 x8, bo x9, i64 x10, str x11, i64 x12, i64 x13]], _, S_, (.ob (k := m1) (o := 0) (T := 42) (cs := [i64 v1, bo x3, bo x4, i64 x5, str x6, i64 x7, i64 x8, bo x9, i64 x10, str x11, i64 x12, i64 x13]) (by kernel_rfl) (hh.ob 1 (by kernel_rfl)) (.inl ⟨by kernel_rfl, 12, by kernel_rfl, Nat.le_of_ble_eq_true rfl, by kernel_rfl⟩) (.nil)), D.le.refl _, Store.le.refl _, rfl, (hh.sub [0] (by decide) (by kernel_rfl))⟩
  rw [if_t hc9] at h
  refine zsr ?_
  refine seg 1 [4, 50] [(50, .ob b0 0)] [1] (by kernel_rfl) (by kernel_rfl) ?_
  obtain ⟨v27, ht18, h⟩ := bs h
  refine AOps_callR _ [.ob b0 0] (tl_get rfl) rfl rfl rfl rfl Try.func35 (by decide) rfl ((.cons (D.le.refl _) (.nil))) (cursor_Cursor_Fail_s0.ok (⟨x1, x2⟩ : Cursor) _ _ b0 ((hh.have_ [0] (by decide) (by kernel_rfl)).own) _ ht18) ?_
  rintro _ S_ ⟨rfl, h2_⟩
  replace hh := hh.call [0] [1, 2] (by decide) (by kernel_rfl) h2_ rfl
  refine fg [4, 51] ?_
  refine znsr ?_
  refine seg 1 [4, 52] [(52, .ag [i64 0, bo false, bo false, i64 0, str [], i64 0, i64 0, bo false, i64 0, str [], i64 0, i64 0])] [1] (by kernel_rfl) (by kernel_rfl) ?_
  refine AOps_putV (T := 42) (off := 0) (cs := [i64 0, bo false, bo false, i64 0, str [], i64 0, i64 0, bo false, i64 0, str [], i64 0, i64 0]) (ds := [i64 0, bo false, bo false, i64 0, str [], i64 0, i64 0, bo false, i64 0, str [], i64 0, i64 0]) (cs' := [i64 0, bo false, bo false, i64 0, str [], i64 0, i64 0, bo false, i64 0, str [], i64 0, i64 0]) (tl_get rfl) rfl rfl rfl (hh.ob 1 (by kernel_rfl)) rfl (by kernel_rfl) (Nat.le_of_ble_eq_true rfl) (LeL.refl _) (fun S_ u_ => ?_)
  replace hh := hh.obS' 1 (by kernel_rfl) u_
  refine fg0 [4] ?_
  refine zn ?_
  refine AT_ret ?_
  refine athen_r ?_
  have e0_ : (⟨0, false, (⟨false, 0, [], (⟨0, 0⟩ : Point)⟩ : Cell), (⟨false, 0, [], (⟨0, 0⟩ : Point)⟩ : Cell)⟩ : Stat) = r0 := congrArg (fun p_ => p_.1) (Option.some.inj h)
  have e1_ : v27 = c0_ := congrArg (fun p_ => p_.2) (Option.some.inj h)
  subst e0_
  subst e1_
  exact ⟨[.ag [i64 0, bo false, bo false, i64 0, str [], i64 0, i64 0, bo false, i64 0, str [], i64 0, i64 0]], _, S_, (.ob (k := m1) (o := 0) (T := 42) (cs := [i64 0, bo false, bo false, i64 0, str [], i64 0, i64 0, bo false, i64 0, str [], i64 0, i64 0]) (by kernel_rfl) (hh.ob 1 (by kernel_rfl)) (.inl ⟨by kernel_rfl, 12, by kernel_rfl, Nat.le_of_ble_eq_true rfl, by kernel_rfl⟩) (.nil)), D.le.refl _, Store.le.refl _, rfl, (hh.sub [0] (by decide) (by kernel_rfl))⟩
end Go.Proofs.Ytfaojkajlpojlaa.Abs
