/- What functions of the program compute, each with the proof that it does (printed by wip/gen/all2.py). -/
import Derived.Test.YtfaojkajlpojlaaV5
import Derived.KernelRfl
namespace Go.Proofs.Ytfaojkajlpojlaa.Abs
open Go
set_option maxRecDepth 100000
mutual
def footer_Encode.l2 : Nat → Footer → Int → Int → Int → (List UInt8) → Option ((List UInt8) × Bool)
  | 0, _, _, _, _, _ => none
  | k + 1, a0, x11, x17, x20, x21 => if (decide (x20 < ((rd ((rd a0.Groups x11 Group.zero).Chunks) x17 []).length : Int))) = true then (if 0 ≤ x20 ∧ x20 < ((rd ((rd a0.Groups x11 Group.zero).Chunks) x17 []).length : Int) then ((footer_Encode_c1_s0.f k ((rd (rd ((rd a0.Groups x11 Group.zero).Chunks) x17 []) x20 PageInfo.zero).Size) x21).bind fun v32 => ((footer_Encode_c1_s0.f k ((rd (rd ((rd a0.Groups x11 Group.zero).Chunks) x17 []) x20 PageInfo.zero).Rows) v32).bind fun v33 => (if 0 ≤ x17 ∧ x17 < (a0.Cols.length : Int) then ((stat_Put.f k v33 ((rd a0.Cols x17 Col.zero).Type_) ((rd (rd ((rd a0.Groups x11 Group.zero).Chunks) x17 []) x20 PageInfo.zero).Stat)).bind fun v34 => (footer_Encode.l2 k a0 x11 x17 (IntKind.wrap .i64 (x20 + 1)) v34)) else none))) else none) else (footer_Encode.l1 k a0 x11 (IntKind.wrap .i64 (x17 + 1)) x21)
def footer_Encode.l1 : Nat → Footer → Int → Int → (List UInt8) → Option ((List UInt8) × Bool)
  | 0, _, _, _, _ => none
  | k + 1, a0, x11, x17, x18 => if (decide (x17 < (((rd a0.Groups x11 Group.zero).Chunks).length : Int))) = true then (if 0 ≤ x17 ∧ x17 < (((rd a0.Groups x11 Group.zero).Chunks).length : Int) then ((footer_Encode_c1_s0.f k ((rd ((rd a0.Groups x11 Group.zero).Chunks) x17 []).length : Int) x18).bind fun v28 => (footer_Encode.l2 k a0 x11 x17 0 v28)) else none) else (footer_Encode.l0 k a0 (IntKind.wrap .i64 (x11 + 1)) x18)
def footer_Encode.l0 : Nat → Footer → Int → (List UInt8) → Option ((List UInt8) × Bool)
  | 0, _, _, _ => none
  | k + 1, a0, x11, x12 => if (decide (x11 < (a0.Groups.length : Int))) = true then (if 0 ≤ x11 ∧ x11 < (a0.Groups.length : Int) then ((footer_Encode_c1_s0.f k ((rd a0.Groups x11 Group.zero).Rows) x12).bind fun v20 => (footer_Encode.l1 k a0 x11 0 v20)) else none) else (some (x12, true))
end
def footer_Encode.f (k : Nat) (a0 : Footer) : Option ((List UInt8) × Bool) := (footer_Right.f k a0).bind fun v1 => (if (!v1) = true then (some (([] : List UInt8), false)) else ((schema_Put.f k ([] : List UInt8) a0.Cols).bind fun v2 => ((footer_Encode_c1_s0.f k a0.Rows v2).bind fun v3 => ((footer_Encode_c1_s0.f k (a0.Groups.length : Int) v3).bind fun v4 => (footer_Encode.l0 k a0 0 v4)))))
theorem footer_Encode.mono_l : ∀ k, (∀ y0 y1 y2 y3 y4, LeO (footer_Encode.l2 k y0 y1 y2 y3 y4) (footer_Encode.l2 (k + 1) y0 y1 y2 y3 y4)) ∧ (∀ y0 y1 y2 y3, LeO (footer_Encode.l1 k y0 y1 y2 y3) (footer_Encode.l1 (k + 1) y0 y1 y2 y3)) ∧ (∀ y0 y1 y2, LeO (footer_Encode.l0 k y0 y1 y2) (footer_Encode.l0 (k + 1) y0 y1 y2))
  | 0 => ⟨fun _ _ _ _ _ r h => (by simp only [footer_Encode.l2] at h; cases h), fun _ _ _ _ r h => (by simp only [footer_Encode.l1] at h; cases h), fun _ _ _ r h => (by simp only [footer_Encode.l0] at h; cases h)⟩
  | k + 1 => by
    have ih := footer_Encode.mono_l k
    refine ⟨?_, ?_, ?_⟩
    · intro y0 y1 y2 y3 y4
      rw [footer_Encode.l2, footer_Encode.l2]
      repeat' first
        | exact LeO.refl _
        | exact LeO.none _
        | exact ih.1 _ _ _ _ _
        | exact ih.2.1 _ _ _ _
        | exact ih.2.2 _ _ _
        | exact footer_Encode_c1_s0.mono _ _ _
        | exact footer_Right.mono _ _
        | exact schema_Put.mono _ _ _
        | exact stat_Put.mono _ _ _ _
        | refine LeO.ite ?_ ?_
        | refine LeO.bind ?_ (fun _ => ?_)
    · intro y0 y1 y2 y3
      rw [footer_Encode.l1, footer_Encode.l1]
      repeat' first
        | exact LeO.refl _
        | exact LeO.none _
        | exact ih.1 _ _ _ _ _
        | exact ih.2.1 _ _ _ _
        | exact ih.2.2 _ _ _
        | exact footer_Encode_c1_s0.mono _ _ _
        | exact footer_Right.mono _ _
        | exact schema_Put.mono _ _ _
        | exact stat_Put.mono _ _ _ _
        | refine LeO.ite ?_ ?_
        | refine LeO.bind ?_ (fun _ => ?_)
    · intro y0 y1 y2
      rw [footer_Encode.l0, footer_Encode.l0]
      repeat' first
        | exact LeO.refl _
        | exact LeO.none _
        | exact ih.1 _ _ _ _ _
        | exact ih.2.1 _ _ _ _
        | exact ih.2.2 _ _ _
        | exact footer_Encode_c1_s0.mono _ _ _
        | exact footer_Right.mono _ _
        | exact schema_Put.mono _ _ _
        | exact stat_Put.mono _ _ _ _
        | refine LeO.ite ?_ ?_
        | refine LeO.bind ?_ (fun _ => ?_)
theorem footer_Encode.mono (k : Nat) (a0 : Footer) : LeO (footer_Encode.f k a0) (footer_Encode.f (k + 1) a0) := by
  unfold footer_Encode.f
  repeat' first
    | exact LeO.refl _
    | exact LeO.none _
    | exact (footer_Encode.mono_l k).1 _ _ _ _ _
    | exact (footer_Encode.mono_l k).2.1 _ _ _ _
    | exact (footer_Encode.mono_l k).2.2 _ _ _
    | exact footer_Encode_c1_s0.mono _ _ _
    | exact footer_Right.mono _ _
    | exact schema_Put.mono _ _ _
    | exact stat_Put.mono _ _ _ _
    | refine LeO.ite ?_ ?_
    | refine LeO.bind ?_ (fun _ => ?_)
theorem footer_Encode.ok (k : Nat) (a0 : Footer) (S : Store) (r0 : (List UInt8)) (r1 : Bool) (h : footer_Encode.f k a0 = some (r0, r1)) : ACalls Try.prog 9 [.ag (Footer.enc a0)] S (fun r_ S_ => ∃ (u0 : Nat), r_ = .tup [.sl 1 (r0.map eB) (some u0), bo r1] ∧ Own S [] S_ [.t u0 (r0).length 1]) := by
  unfold footer_Encode.f at h
  refine acalls_of Try.func9 rfl ?_
  have hh := Own.nil (S := S)
  refine AT_forget 0x1 (mkS 79 [(0, .ag (Footer.enc a0))]) (by kernel_rfl) ?_
  refine zsr ?_
  refine AOps_box_im (ds := (Footer.enc a0)) (tl_get rfl) rfl rfl (by kernel_rfl) ?_
  refine fg [1] ?_
  refine seg 2 [1] [] [] (by kernel_rfl) (by kernel_rfl) ?_
  refine zn ?_
  refine AT_seq ?_
  refine zsr ?_
  refine seg 1 [1, 12] [(12, .ag (Footer.enc a0))] [1, 2] (by kernel_rfl) (by kernel_rfl) ?_
  obtain ⟨v1, ht1, h⟩ := bs h
  refine AOps_callR _ [.ag (Footer.enc a0)] (tl_get rfl) rfl rfl rfl rfl Try.func12 (by decide) rfl ((.cons (D.le.refl _) (.nil))) (footer_Right.ok _ a0 _  _ ht1) ?_
  rintro _ S_ ⟨rfl, h2_⟩
  replace hh := hh.call0 h2_
  refine fg [1, 13] ?_
  refine seg 1 [1, 14] [(14, bo (!v1))] [] (by kernel_rfl) (by kernel_rfl) ?_
  refine zn ?_
  refine AT_condS (!v1) (by kernel_rfl) (fun hc1 => ?_) (fun hc1 => ?_)
  · rw [if_t hc1] at h
    refine zsr ?_
    refine seg 2 [2, 3] [(2, nilS), (3, bo false)] [] (by kernel_rfl) (by kernel_rfl) ?_
    refine zn ?_
    refine AT_nilU 2 1 (fun tk_ => mkS 79 [(2, .sl 1 [] (some tk_)), (3, bo false)]) (by kernel_rfl) (fun tk_ => by kernel_rfl) (fun S_ t1 hf_ u_ => ?_)
    replace hh := hh.tkN' hf_ u_ (n := (([] : List UInt8)).length) (by first | rfl | (simp [bytesD_len]; done) | (simp [bytesD_len]; omega))
    refine AT_ret ?_
    refine athen_r ?_
    have e0_ : ([] : List UInt8) = r0 := congrArg (fun p_ => p_.1) (Option.some.inj h)
    have e1_ : false = r1 := congrArg (fun p_ => p_.2) (Option.some.inj h)
    subst e0_
    subst e1_
    exact ⟨[.sl 1 [] (some t1), bo false], _, S_, (.of (by kernel_rfl)), D.le.refl _, Store.le.refl _, t1, rfl, hh⟩
  rw [if_f hc1] at h
  refine zkn ?_
  refine zsr ?_
  refine seg 2 [1, 16] [(16, .sl 3 (a0.Cols.map Col.enc) none)] [2, 3, 4] (by kernel_rfl) (by kernel_rfl) ?_
  obtain ⟨v2, ht2, h⟩ := bs h
  refine AOps_callR _ [.sl 1 (([] : List UInt8).map eB) none, .sl 3 (a0.Cols.map Col.enc) none] (tl_get rfl) rfl rfl rfl rfl Try.func15 (by decide) rfl ((.cons (nil_le) (.cons (D.le.refl _) (.nil)))) (schema_Put.ok _ ([] : List UInt8) a0.Cols _  _ ht2) ?_
  rintro _ S_ ⟨t2, rfl, h2_⟩
  replace hh := hh.calln h2_
  refine fg [1, 17] ?_
  refine AOps_allocV (ds := [nilS]) (cs' := [nilS]) (tl_get rfl) rfl rfl (by kernel_rfl) (LeL.refl _) (fun S_ m1 hf_ u_ => ?_)
  replace hh := hh.obN hf_ u_
  refine AOps_nilO (k := m1) (T := 47) (cs := [nilS]) 0 1 (hh.ob 1 (by kernel_rfl)) rfl (fun S_ t3 hf_ h1_ h2_ h3_ => ?_)
  replace hh := hh.nilO 1 (by kernel_rfl) hf_ h1_ h2_ h3_ (L' := [.t t2 (v2).length 1, .o m1 (.cells 47 [.sl 1 [] (some t3)]), .t t3 (([] : List UInt8)).length 1]) (by kernel_rfl)
  refine fg [1, 4, 17] ?_
  refine AOps_putV (T := 47) (off := 0) (cs := [.sl 1 [] (some t3)]) (ds := [.sl 1 (v2.map eB) (some t2)]) (cs' := [.sl 1 (v2.map eB) (some t2)]) (tl_get rfl) rfl rfl rfl (hh.ob 1 (by kernel_rfl)) rfl (by kernel_rfl) (Nat.le_of_ble_eq_true rfl) (LeL.refl _) (fun S_ u_ => ?_)
  replace hh := hh.obS' 1 (by kernel_rfl) u_
  refine AOps_forget 0x12 (mkS 79 [(1, .pt (Footer.enc a0)), (4, .ob m1 0)]) (by kernel_rfl) ?_
  refine znsr ?_
  refine seg 2 [1, 4, 5] [(5, .fn (.func 16) [] [.ob m1 0])] [] (by kernel_rfl) (by kernel_rfl) ?_
  refine znsr ?_
  refine seg 3 [1, 4, 5, 19, 21] [(19, .fn (.func 16) [] [.ob m1 0]), (21, i64 a0.Rows)] [3] (by kernel_rfl) (by kernel_rfl) ?_
  obtain ⟨v3, ht3, h⟩ := bs h
  refine AOps_callR _ [i64 a0.Rows, .ob m1 0] (tl_get rfl) rfl rfl rfl rfl Try.func16 (by decide) rfl ((.cons (D.le.refl _) (.cons (D.le.refl _) (.nil)))) (footer_Encode_c1_s0.ok _ a0.Rows v2 _ _ m1 t2 ((hh.have_ [1, 0] (by decide) (by kernel_rfl)).own) _ ht3) ?_
  rintro _ S_ ⟨t4, rfl, h2_⟩
  replace hh := hh.call [1, 0] [2] (by decide) (by kernel_rfl) h2_ rfl
  refine fg [1, 4, 5, 22] ?_
  refine znsr ?_
  refine seg 4 [1, 4, 5, 23, 26] [(23, .fn (.func 16) [] [.ob m1 0]), (26, i64 ((a0.Groups.map Group.enc).length : Int))] [4] (by kernel_rfl) (by kernel_rfl) ?_
  refine tod 26 (i64 ((a0.Groups.map Group.enc).length : Int)) (i64 (a0.Groups.length : Int)) (by kernel_rfl) (by rw [List.length_map]) ?_
  obtain ⟨v4, ht4, h⟩ := bs h
  refine AOps_callR _ [i64 (a0.Groups.length : Int), .ob m1 0] (tl_get rfl) rfl rfl rfl rfl Try.func16 (by decide) rfl ((.cons (D.le.refl _) (.cons (D.le.refl _) (.nil)))) (footer_Encode_c1_s0.ok _ (a0.Groups.length : Int) v3 _ _ m1 t4 ((hh.have_ [0, 1] (by decide) (by kernel_rfl)).own) _ ht4) ?_
  rintro _ S_ ⟨t5, rfl, h2_⟩
  replace hh := hh.call [0, 1] [2] (by decide) (by kernel_rfl) h2_ rfl
  refine fg [1, 4, 5, 27] ?_
  refine zn ?_
  refine AT_seq ?_
  refine zsr ?_
  refine seg 3 [1, 4, 5, 29, 30] [(29, .sl 2 (a0.Groups.map Group.enc) none), (30, i64 ((a0.Groups.map Group.enc).length : Int))] [3] (by kernel_rfl) (by kernel_rfl) ?_
  refine tod 30 (i64 ((a0.Groups.map Group.enc).length : Int)) (i64 (a0.Groups.length : Int)) (by kernel_rfl) (by rw [List.length_map]) ?_
  refine seg 1 [1, 4, 5, 29, 30, 31] [(31, i64 0)] [] (by kernel_rfl) (by kernel_rfl) ?_
  refine zn ?_
  refine AT_block ?_
  refine AT_loopM 0xe0000032 (fun k_ sl_ S_ => k_ ≤ k ∧ ∃ (x11 : Int), ∃ (x12 : (List UInt8)), ∃ (tk8 : Nat), LeL sl_ (mkS 79 [(1, .pt (Footer.enc a0)), (4, .ob m1 0), (5, .fn (.func 16) [] [.ob m1 0]), (29, .sl 2 (a0.Groups.map Group.enc) none), (30, i64 (a0.Groups.length : Int)), (31, i64 x11)]) ∧ footer_Encode.l0 k_ a0 x11 x12 = some (r0, r1) ∧ Own S [] S_ [.o m1 (.cells 47 [.sl 1 (x12.map eB) (some tk8)]), .t tk8 (x12).length 1]) k ⟨Nat.le_refl _, 0, v4, t5, (le_rf (by kernel_rfl)), h, (hh.sub [0, 1] (by decide) (by kernel_rfl))⟩ ?_
  clear hh h
  rintro k' sl_ S_ ⟨hk_, x11, x12, tk8, hl_, h, hh⟩
  refine AT_weaken hl_ ?_
  obtain _ | k8 := k'
  · cases h
  rw [footer_Encode.l0] at h
  refine zsr ?_
  refine seg 1 [1, 4, 5, 29, 30, 31, 32] [(32, bo (decide (x11 < (a0.Groups.length : Int))))] [] (by kernel_rfl) (by kernel_rfl) ?_
  refine zn ?_
  refine AT_seq ?_
  refine AT_condR (decide (x11 < (a0.Groups.length : Int))) (by kernel_rfl) (fun hc9 => ?_) (fun hc9 => ?_)
  · rw [if_f hc9] at h
    refine AT_exit ?_
    refine athen_e ?_
    refine athen_e ?_
    refine ablock_h ?_
    refine athen_n ?_
    refine zsr ?_
    refine AOps_load (T := 47) (off := 0) (cs := [.sl 1 (x12.map eB) (some tk8)]) (.sl 1 (x12.map eB) (some tk8)) (tl_get rfl) rfl rfl rfl (hh.ob 0 (by kernel_rfl)) (.inr ⟨by kernel_rfl, by kernel_rfl⟩) ?_
    refine fg [78] ?_
    refine seg 2 [2, 3] [(2, .sl 1 (x12.map eB) (some tk8)), (3, bo true)] [] (by kernel_rfl) (by kernel_rfl) ?_
    refine zn ?_
    refine AT_ret ?_
    have e0_ : x12 = r0 := congrArg (fun p_ => p_.1) (Option.some.inj h)
    have e1_ : true = r1 := congrArg (fun p_ => p_.2) (Option.some.inj h)
    subst e0_
    subst e1_
    exact ⟨[.sl 1 (x12.map eB) (some tk8), bo true], _, S_, (.of (by kernel_rfl)), D.le.refl _, Store.le.refl _, tk8, rfl, (hh.sub [1] (by decide) (by kernel_rfl))⟩
  rw [if_t hc9] at h
  refine zkn ?_
  refine AT_seq ?_
  refine AT_block ?_
  refine zsr ?_
  obtain ⟨hi19, h⟩ := is h
  refine segc 1 [1, 4, 5, 29, 30, 31, 33] [(33, .pt ((a0.Groups.map Group.enc).getD (x11 : Int).toNat []))] (0 ≤ x11 ∧ x11 < ((a0.Groups.map Group.enc).length : Int)) [1, 2, 3] (by kernel_rfl) (by kernel_rfl) (idx_ok hi19) ?_
  refine tod 33 (.pt ((a0.Groups.map Group.enc).getD (x11 : Int).toNat [])) (.pt (Group.enc (rd a0.Groups x11 Group.zero))) (by kernel_rfl) (by rw [pt_rd Group.enc a0.Groups x11 Group.zero hi19.1 hi19.2]) ?_
  refine seg 1 [1, 4, 5, 29, 30, 31, 34] [(34, .ag (Group.enc (rd a0.Groups x11 Group.zero)))] [2, 3] (by kernel_rfl) (by kernel_rfl) ?_
  refine AOps_newvar (zs := [i64 0, nilS]) (ds := (Group.enc (rd a0.Groups x11 Group.zero))) (d := 7) (tl_get rfl) rfl rfl rfl (by kernel_rfl) (by kernel_rfl) (tl_get rfl) (fun _ => rfl) rfl rfl (fun _ => rfl) rfl (by kernel_rfl) (by kernel_rfl) ?_
  refine AOps_forget 0xe00000b2 (mkS 79 [(1, .pt (Footer.enc a0)), (4, .ob m1 0), (5, .fn (.func 16) [] [.ob m1 0]), (7, .pt (Group.enc (rd a0.Groups x11 Group.zero))), (29, .sl 2 (a0.Groups.map Group.enc) none), (30, i64 (a0.Groups.length : Int)), (31, i64 x11)]) (by kernel_rfl) ?_
  refine znsr ?_
  refine seg 3 [1, 4, 5, 7, 29, 30, 31, 35, 37] [(35, .fn (.func 16) [] [.ob m1 0]), (37, i64 ((rd a0.Groups x11 Group.zero).Rows))] [3] (by kernel_rfl) (by kernel_rfl) ?_
  obtain ⟨v20, ht20, h⟩ := bs h
  refine AOps_callR _ [i64 ((rd a0.Groups x11 Group.zero).Rows), .ob m1 0] (tl_get rfl) rfl rfl rfl rfl Try.func16 (by decide) rfl ((.cons (D.le.refl _) (.cons (D.le.refl _) (.nil)))) (footer_Encode_c1_s0.ok _ ((rd a0.Groups x11 Group.zero).Rows) x12 _ _ m1 tk8 ((hh.have_ [0, 1] (by decide) (by kernel_rfl)).own) _ ht20) ?_
  rintro _ S_ ⟨t21, rfl, h2_⟩
  replace hh := hh.call [0, 1] [] (by decide) (by kernel_rfl) h2_ rfl
  refine fg [1, 4, 5, 7, 29, 30, 31, 38] ?_
  refine znsr ?_
  refine seg 3 [1, 4, 5, 29, 30, 31, 40, 41] [(40, .sl 1 (((rd a0.Groups x11 Group.zero).Chunks).map (eL 14 PageInfo.enc)) none), (41, i64 ((((rd a0.Groups x11 Group.zero).Chunks).map (eL 14 PageInfo.enc)).length : Int))] [3] (by kernel_rfl) (by kernel_rfl) ?_
  refine tod 41 (i64 ((((rd a0.Groups x11 Group.zero).Chunks).map (eL 14 PageInfo.enc)).length : Int)) (i64 (((rd a0.Groups x11 Group.zero).Chunks).length : Int)) (by kernel_rfl) (by rw [List.length_map]) ?_
  refine seg 1 [1, 4, 5, 29, 30, 31, 40, 41, 42] [(42, i64 0)] [] (by kernel_rfl) (by kernel_rfl) ?_
  refine zn ?_
  refine AT_block ?_
  refine AT_loopM 0x700e0000032 (fun k_ sl_ S_ => k_ ≤ k8 ∧ ∃ (x17 : Int), ∃ (x18 : (List UInt8)), ∃ (tk12 : Nat), LeL sl_ (mkS 79 [(1, .pt (Footer.enc a0)), (4, .ob m1 0), (5, .fn (.func 16) [] [.ob m1 0]), (29, .sl 2 (a0.Groups.map Group.enc) none), (30, i64 (a0.Groups.length : Int)), (31, i64 x11), (40, .sl 1 (((rd a0.Groups x11 Group.zero).Chunks).map (eL 14 PageInfo.enc)) none), (41, i64 (((rd a0.Groups x11 Group.zero).Chunks).length : Int)), (42, i64 x17)]) ∧ footer_Encode.l1 k_ a0 x11 x17 x18 = some (r0, r1) ∧ Own S [] S_ [.o m1 (.cells 47 [.sl 1 (x18.map eB) (some tk12)]), .t tk12 (x18).length 1]) k8 ⟨Nat.le_refl _, 0, v20, t21, (le_rf (by kernel_rfl)), h, hh⟩ ?_
  clear hh h
  rintro k' sl_ S_ ⟨hk_, x17, x18, tk12, hl_, h, hh⟩
  refine AT_weaken hl_ ?_
  obtain _ | k12 := k'
  · cases h
  rw [footer_Encode.l1] at h
  refine zsr ?_
  refine seg 1 [1, 4, 5, 29, 30, 31, 40, 41, 42, 43] [(43, bo (decide (x17 < (((rd a0.Groups x11 Group.zero).Chunks).length : Int))))] [] (by kernel_rfl) (by kernel_rfl) ?_
  refine zn ?_
  refine AT_seq ?_
  refine AT_condR (decide (x17 < (((rd a0.Groups x11 Group.zero).Chunks).length : Int))) (by kernel_rfl) (fun hc13 => ?_) (fun hc13 => ?_)
  · rw [if_f hc13] at h
    refine AT_exit ?_
    refine athen_e ?_
    refine athen_e ?_
    refine ablock_h ?_
    refine ablock_n ?_
    refine athen_n ?_
    refine AT_region ?_
    refine seg 2 [1, 4, 5, 29, 30, 31] [(31, i64 (IntKind.wrap .i64 (x11 + 1)))] [] (by kernel_rfl) (by kernel_rfl) ?_
    refine zn ?_
    exact ⟨k12, (by omega), (by omega), IntKind.wrap .i64 (x11 + 1), x18, tk12, (le_rf (by kernel_rfl)), h, hh⟩
  rw [if_t hc13] at h
  refine zkn ?_
  refine AT_seq ?_
  refine AT_block ?_
  refine zsr ?_
  obtain ⟨hi28, h⟩ := is h
  refine segc 2 [1, 4, 5, 29, 30, 31, 40, 41, 42, 44, 45] [(44, i64 x17), (45, .pt ((((rd a0.Groups x11 Group.zero).Chunks).map (eL 14 PageInfo.enc)).getD (x17 : Int).toNat []))] (0 ≤ x17 ∧ x17 < ((((rd a0.Groups x11 Group.zero).Chunks).map (eL 14 PageInfo.enc)).length : Int)) [2, 3, 4] (by kernel_rfl) (by kernel_rfl) (idx_ok hi28) ?_
  refine tod 45 (.pt ((((rd a0.Groups x11 Group.zero).Chunks).map (eL 14 PageInfo.enc)).getD (x17 : Int).toNat [])) (.pt [.sl 14 ((rd ((rd a0.Groups x11 Group.zero).Chunks) x17 []).map PageInfo.enc) none]) (by kernel_rfl) (by rw [pt_rd (eL 14 PageInfo.enc) ((rd a0.Groups x11 Group.zero).Chunks) x17 [] hi28.1 hi28.2]) ?_
  refine seg 3 [1, 4, 5, 8, 9, 29, 30, 31, 40, 41, 42] [(8, i64 x17), (9, .sl 14 ((rd ((rd a0.Groups x11 Group.zero).Chunks) x17 []).map PageInfo.enc) none)] [] (by kernel_rfl) (by kernel_rfl) ?_
  refine znsr ?_
  refine seg 3 [1, 4, 5, 8, 9, 29, 30, 31, 40, 41, 42, 47, 49] [(47, .fn (.func 16) [] [.ob m1 0]), (49, i64 (((rd ((rd a0.Groups x11 Group.zero).Chunks) x17 []).map PageInfo.enc).length : Int))] [3] (by kernel_rfl) (by kernel_rfl) ?_
  refine tod 49 (i64 (((rd ((rd a0.Groups x11 Group.zero).Chunks) x17 []).map PageInfo.enc).length : Int)) (i64 ((rd ((rd a0.Groups x11 Group.zero).Chunks) x17 []).length : Int)) (by kernel_rfl) (by rw [List.length_map]) ?_
  obtain ⟨v28, ht28, h⟩ := bs h
  refine AOps_callR _ [i64 ((rd ((rd a0.Groups x11 Group.zero).Chunks) x17 []).length : Int), .ob m1 0] (tl_get rfl) rfl rfl rfl rfl Try.func16 (by decide) rfl ((.cons (D.le.refl _) (.cons (D.le.refl _) (.nil)))) (footer_Encode_c1_s0.ok _ ((rd ((rd a0.Groups x11 Group.zero).Chunks) x17 []).length : Int) x18 _ _ m1 tk12 ((hh.have_ [0, 1] (by decide) (by kernel_rfl)).own) _ ht28) ?_
  rintro _ S_ ⟨t29, rfl, h2_⟩
  replace hh := hh.call [0, 1] [] (by decide) (by kernel_rfl) h2_ rfl
  refine fg [1, 4, 5, 8, 9, 29, 30, 31, 40, 41, 42, 50] ?_
  refine znsr ?_
  refine seg 2 [1, 4, 5, 8, 29, 30, 31, 40, 41, 42, 51, 52] [(51, .sl 14 ((rd ((rd a0.Groups x11 Group.zero).Chunks) x17 []).map PageInfo.enc) none), (52, i64 (((rd ((rd a0.Groups x11 Group.zero).Chunks) x17 []).map PageInfo.enc).length : Int))] [2] (by kernel_rfl) (by kernel_rfl) ?_
  refine tod 52 (i64 (((rd ((rd a0.Groups x11 Group.zero).Chunks) x17 []).map PageInfo.enc).length : Int)) (i64 ((rd ((rd a0.Groups x11 Group.zero).Chunks) x17 []).length : Int)) (by kernel_rfl) (by rw [List.length_map]) ?_
  refine seg 1 [1, 4, 5, 8, 29, 30, 31, 40, 41, 42, 51, 52, 53] [(53, i64 0)] [] (by kernel_rfl) (by kernel_rfl) ?_
  refine zn ?_
  refine AT_block ?_
  refine AT_loopM 0x380700e0000132 (fun k_ sl_ S_ => k_ ≤ k12 ∧ ∃ (x20 : Int), ∃ (x21 : (List UInt8)), ∃ (tk14 : Nat), LeL sl_ (mkS 79 [(1, .pt (Footer.enc a0)), (4, .ob m1 0), (5, .fn (.func 16) [] [.ob m1 0]), (8, i64 x17), (29, .sl 2 (a0.Groups.map Group.enc) none), (30, i64 (a0.Groups.length : Int)), (31, i64 x11), (40, .sl 1 (((rd a0.Groups x11 Group.zero).Chunks).map (eL 14 PageInfo.enc)) none), (41, i64 (((rd a0.Groups x11 Group.zero).Chunks).length : Int)), (42, i64 x17), (51, .sl 14 ((rd ((rd a0.Groups x11 Group.zero).Chunks) x17 []).map PageInfo.enc) none), (52, i64 ((rd ((rd a0.Groups x11 Group.zero).Chunks) x17 []).length : Int)), (53, i64 x20)]) ∧ footer_Encode.l2 k_ a0 x11 x17 x20 x21 = some (r0, r1) ∧ Own S [] S_ [.o m1 (.cells 47 [.sl 1 (x21.map eB) (some tk14)]), .t tk14 (x21).length 1]) k12 ⟨Nat.le_refl _, 0, v28, t29, (le_rf (by kernel_rfl)), h, hh⟩ ?_
  clear hh h
  rintro k' sl_ S_ ⟨hk_, x20, x21, tk14, hl_, h, hh⟩
  refine AT_weaken hl_ ?_
  obtain _ | k14 := k'
  · cases h
  rw [footer_Encode.l2] at h
  refine zsr ?_
  refine seg 1 [1, 4, 5, 8, 29, 30, 31, 40, 41, 42, 51, 52, 53, 54] [(54, bo (decide (x20 < ((rd ((rd a0.Groups x11 Group.zero).Chunks) x17 []).length : Int))))] [] (by kernel_rfl) (by kernel_rfl) ?_
  refine zn ?_
  refine AT_seq ?_
  refine AT_condR (decide (x20 < ((rd ((rd a0.Groups x11 Group.zero).Chunks) x17 []).length : Int))) (by kernel_rfl) (fun hc15 => ?_) (fun hc15 => ?_)
  · rw [if_f hc15] at h
    refine AT_exit ?_
    refine athen_e ?_
    refine athen_e ?_
    refine ablock_h ?_
    refine ablock_n ?_
    refine athen_n ?_
    refine AT_region ?_
    refine seg 2 [1, 4, 5, 29, 30, 31, 40, 41, 42] [(42, i64 (IntKind.wrap .i64 (x17 + 1)))] [] (by kernel_rfl) (by kernel_rfl) ?_
    refine zn ?_
    exact ⟨k14, (by omega), (by omega), IntKind.wrap .i64 (x17 + 1), x21, tk14, (le_rf (by kernel_rfl)), h, hh⟩
  rw [if_t hc15] at h
  refine zkn ?_
  refine AT_seq ?_
  refine AT_block ?_
  refine zsr ?_
  obtain ⟨hi33, h⟩ := is h
  refine segc 1 [1, 4, 5, 8, 29, 30, 31, 40, 41, 42, 51, 52, 53, 55] [(55, .pt (((rd ((rd a0.Groups x11 Group.zero).Chunks) x17 []).map PageInfo.enc).getD (x20 : Int).toNat []))] (0 ≤ x20 ∧ x20 < (((rd ((rd a0.Groups x11 Group.zero).Chunks) x17 []).map PageInfo.enc).length : Int)) [1, 2, 3] (by kernel_rfl) (by kernel_rfl) (idx_ok hi33) ?_
  refine tod 55 (.pt (((rd ((rd a0.Groups x11 Group.zero).Chunks) x17 []).map PageInfo.enc).getD (x20 : Int).toNat [])) (.pt (PageInfo.enc (rd (rd ((rd a0.Groups x11 Group.zero).Chunks) x17 []) x20 PageInfo.zero))) (by kernel_rfl) (by rw [pt_rd PageInfo.enc (rd ((rd a0.Groups x11 Group.zero).Chunks) x17 []) x20 PageInfo.zero hi33.1 hi33.2]) ?_
  refine seg 1 [1, 4, 5, 8, 29, 30, 31, 40, 41, 42, 51, 52, 53, 56] [(56, .ag (PageInfo.enc (rd (rd ((rd a0.Groups x11 Group.zero).Chunks) x17 []) x20 PageInfo.zero)))] [2, 3] (by kernel_rfl) (by kernel_rfl) ?_
  refine AOps_newvar (zs := [i64 0, i64 0, i64 0, bo false, bo false, i64 0, str [], i64 0, i64 0, bo false, i64 0, str [], i64 0, i64 0]) (ds := (PageInfo.enc (rd (rd ((rd a0.Groups x11 Group.zero).Chunks) x17 []) x20 PageInfo.zero))) (d := 11) (tl_get rfl) rfl rfl rfl (by kernel_rfl) (by kernel_rfl) (tl_get rfl) (fun _ => rfl) rfl rfl (fun _ => rfl) rfl (by kernel_rfl) (by kernel_rfl) ?_
  refine AOps_forget 0x380700e0000932 (mkS 79 [(1, .pt (Footer.enc a0)), (4, .ob m1 0), (5, .fn (.func 16) [] [.ob m1 0]), (8, i64 x17), (11, .pt (PageInfo.enc (rd (rd ((rd a0.Groups x11 Group.zero).Chunks) x17 []) x20 PageInfo.zero))), (29, .sl 2 (a0.Groups.map Group.enc) none), (30, i64 (a0.Groups.length : Int)), (31, i64 x11), (40, .sl 1 (((rd a0.Groups x11 Group.zero).Chunks).map (eL 14 PageInfo.enc)) none), (41, i64 (((rd a0.Groups x11 Group.zero).Chunks).length : Int)), (42, i64 x17), (51, .sl 14 ((rd ((rd a0.Groups x11 Group.zero).Chunks) x17 []).map PageInfo.enc) none), (52, i64 ((rd ((rd a0.Groups x11 Group.zero).Chunks) x17 []).length : Int)), (53, i64 x20)]) (by kernel_rfl) ?_
  refine znsr ?_
  refine seg 3 [1, 4, 5, 8, 11, 29, 30, 31, 40, 41, 42, 51, 52, 53, 57, 59] [(57, .fn (.func 16) [] [.ob m1 0]), (59, i64 ((rd (rd ((rd a0.Groups x11 Group.zero).Chunks) x17 []) x20 PageInfo.zero).Size))] [3] (by kernel_rfl) (by kernel_rfl) ?_
  obtain ⟨v32, ht32, h⟩ := bs h
  refine AOps_callR _ [i64 ((rd (rd ((rd a0.Groups x11 Group.zero).Chunks) x17 []) x20 PageInfo.zero).Size), .ob m1 0] (tl_get rfl) rfl rfl rfl rfl Try.func16 (by decide) rfl ((.cons (D.le.refl _) (.cons (D.le.refl _) (.nil)))) (footer_Encode_c1_s0.ok _ ((rd (rd ((rd a0.Groups x11 Group.zero).Chunks) x17 []) x20 PageInfo.zero).Size) x21 _ _ m1 tk14 ((hh.have_ [0, 1] (by decide) (by kernel_rfl)).own) _ ht32) ?_
  rintro _ S_ ⟨t33, rfl, h2_⟩
  replace hh := hh.call [0, 1] [] (by decide) (by kernel_rfl) h2_ rfl
  refine fg [1, 4, 5, 8, 11, 29, 30, 31, 40, 41, 42, 51, 52, 53, 60] ?_
  refine znsr ?_
  refine seg 3 [1, 4, 5, 8, 11, 29, 30, 31, 40, 41, 42, 51, 52, 53, 61, 63] [(61, .fn (.func 16) [] [.ob m1 0]), (63, i64 ((rd (rd ((rd a0.Groups x11 Group.zero).Chunks) x17 []) x20 PageInfo.zero).Rows))] [3] (by kernel_rfl) (by kernel_rfl) ?_
  obtain ⟨v33, ht33, h⟩ := bs h
  refine AOps_callR _ [i64 ((rd (rd ((rd a0.Groups x11 Group.zero).Chunks) x17 []) x20 PageInfo.zero).Rows), .ob m1 0] (tl_get rfl) rfl rfl rfl rfl Try.func16 (by decide) rfl ((.cons (D.le.refl _) (.cons (D.le.refl _) (.nil)))) (footer_Encode_c1_s0.ok _ ((rd (rd ((rd a0.Groups x11 Group.zero).Chunks) x17 []) x20 PageInfo.zero).Rows) v32 _ _ m1 t33 ((hh.have_ [0, 1] (by decide) (by kernel_rfl)).own) _ ht33) ?_
  rintro _ S_ ⟨t34, rfl, h2_⟩
  replace hh := hh.call [0, 1] [] (by decide) (by kernel_rfl) h2_ rfl
  refine fg [1, 4, 5, 8, 11, 29, 30, 31, 40, 41, 42, 51, 52, 53, 64] ?_
  refine zn ?_
  refine AT_draw [9, 10] 11 (fun _ => True) (by kernel_rfl) ?_
  refine aseg 11 [] [1, 4, 5, 8, 11, 29, 30, 31, 40, 41, 42, 51, 52, 53] [] #[false, false, false, false, false, false, false, false, false, false, false] (by kernel_rfl) (by kernel_rfl) ?_
  refine AAny_load (i := 0) (T := 47) (off := 0) (cs := [.sl 1 (v33.map eB) (some t34)]) (.sl 1 (v33.map eB) (some t34)) (tl_get rfl) (by kernel_rfl) rfl rfl rfl (hh.ob 0 (by kernel_rfl)) (.inr ⟨by kernel_rfl, by kernel_rfl⟩) ?_
  refine afg [1, 4, 5, 8, 11, 29, 30, 31, 40, 41, 42, 51, 52, 53, 65] #[true, false, false, false, false, false, false, false, false, false, false] (by kernel_rfl) ?_
  obtain ⟨hi34, h⟩ := is h
  refine asegc 6 [1, 2, 3, 4] [1, 4, 5, 8, 11, 29, 30, 31, 40, 41, 42, 51, 52, 53, 65, 69] [(69, .pt ((a0.Cols.map Col.enc).getD (x17 : Int).toNat []))] (0 ≤ x17 ∧ x17 < ((a0.Cols.map Col.enc).length : Int)) #[true, true, true, true, true, false, false, false, false, false, false] (by kernel_rfl) (idx_ok hi34) (by kernel_rfl) ?_
  refine atod 69 (.pt ((a0.Cols.map Col.enc).getD (x17 : Int).toNat [])) (.pt (Col.enc (rd a0.Cols x17 Col.zero))) (by kernel_rfl) (by rw [pt_rd Col.enc a0.Cols x17 Col.zero hi34.1 hi34.2]) ?_
  refine aseg 2 [5, 6, 7, 8] [1, 4, 5, 8, 29, 30, 31, 40, 41, 42, 51, 52, 53, 65, 71, 73] [(71, i64 ((rd a0.Cols x17 Col.zero).Type_)), (73, .ag (Stat.enc ((rd (rd ((rd a0.Groups x11 Group.zero).Chunks) x17 []) x20 PageInfo.zero).Stat)))] #[true, true, true, true, true, true, true, true, true, false, false] (by kernel_rfl) (by kernel_rfl) ?_
  refine AAny_eff (fuel := 1) 9 (.inr trivial) (tl_get rfl) (by kernel_rfl) (by kernel_rfl) (by kernel_rfl) ?_
  obtain ⟨v34, ht34, h⟩ := bs h
  refine AOps_callR _ [.sl 1 (v33.map eB) none, i64 ((rd a0.Cols x17 Col.zero).Type_), .ag (Stat.enc ((rd (rd ((rd a0.Groups x11 Group.zero).Chunks) x17 []) x20 PageInfo.zero).Stat))] (tl_get rfl) rfl rfl rfl rfl Try.func18 (by decide) rfl ((.cons (sl_le) (.cons (D.le.refl _) (.cons (D.le.refl _) (.nil))))) (stat_Put.ok _ v33 ((rd a0.Cols x17 Col.zero).Type_) ((rd (rd ((rd a0.Groups x11 Group.zero).Chunks) x17 []) x20 PageInfo.zero).Stat) _  _ ht34) ?_
  rintro _ S_ ⟨t35, rfl, h2_⟩
  replace hh := hh.calln h2_
  refine AOps_end ⟨rfl, _, rfl, ?_⟩; refine AAny_forget 0x40000380700e0000132 (mkS 79 [(1, .pt (Footer.enc a0)), (4, .ob m1 0), (5, .fn (.func 16) [] [.ob m1 0]), (8, i64 x17), (29, .sl 2 (a0.Groups.map Group.enc) none), (30, i64 (a0.Groups.length : Int)), (31, i64 x11), (40, .sl 1 (((rd a0.Groups x11 Group.zero).Chunks).map (eL 14 PageInfo.enc)) none), (41, i64 (((rd a0.Groups x11 Group.zero).Chunks).length : Int)), (42, i64 x17), (51, .sl 14 ((rd ((rd a0.Groups x11 Group.zero).Chunks) x17 []).map PageInfo.enc) none), (52, i64 ((rd ((rd a0.Groups x11 Group.zero).Chunks) x17 []).length : Int)), (53, i64 x20), (74, .sl 1 (v34.map eB) (some t35))]) #[true, true, true, true, true, true, true, true, true, true, false] (by kernel_rfl) (by kernel_rfl) ?_
  refine AAny_eff (fuel := 0) 10 (.inr trivial) (tl_get rfl) (by kernel_rfl) (by kernel_rfl) (by kernel_rfl) ?_
  refine AOps_putV (T := 47) (off := 0) (cs := [.sl 1 (v33.map eB) (some t34)]) (ds := [.sl 1 (v34.map eB) (some t35)]) (cs' := [.sl 1 (v34.map eB) (some t35)]) (tl_get rfl) rfl rfl rfl (hh.ob 1 (by kernel_rfl)) rfl (by kernel_rfl) (Nat.le_of_ble_eq_true rfl) (LeL.refl _) (fun S_ u_ => ?_)
  replace hh := hh.obS' 1 (by kernel_rfl) u_
  refine AOps_end ⟨rfl, _, rfl, ?_⟩; refine afg0 [1, 4, 5, 8, 29, 30, 31, 40, 41, 42, 51, 52, 53] #[true, true, true, true, true, true, true, true, true, true, true] (by kernel_rfl) ?_
  refine AAny_end (.inr trivial) (by kernel_rfl) ?_
  refine ablock_n ?_
  refine athen_n ?_
  refine AT_region ?_
  refine seg 2 [1, 4, 5, 8, 29, 30, 31, 40, 41, 42, 51, 52, 53] [(53, i64 (IntKind.wrap .i64 (x20 + 1)))] [] (by kernel_rfl) (by kernel_rfl) ?_
  refine zn ?_
  exact ⟨k14, (by omega), (by omega), IntKind.wrap .i64 (x20 + 1), v34, t35, (le_rf (by kernel_rfl)), h, (hh.sub [1, 0] (by decide) (by kernel_rfl))⟩
def bitpack_Unpack_c1_s0.f (a0 : Int) (a1 : (List UInt8)) : Option (Int) := if 0 ≤ (IntKind.wrap .i64 (Int.tdiv a0 8)) ∧ (IntKind.wrap .i64 (Int.tdiv a0 8)) < (a1.length : Int) then (if 0 ≤ (Int.tmod a0 8) then (some (IntKind.wrap .u64 ((b8 (ibits .and .u8 ((b8 (Int.fdiv ((rd a1 (IntKind.wrap .i64 (Int.tdiv a0 8)) 0).toNat : Int) (2 ^ min (Int.tmod a0 8 : Int).toNat 8))).toNat : Int) 1)).toNat : Int))) else none) else none
theorem bitpack_Unpack_c1_s0.ok (a0 : Int) (a1 : (List UInt8)) (S : Store) (r : Int) (h : bitpack_Unpack_c1_s0.f a0 a1 = some r) : ACalls Try.prog 76 [i64 a0, .pt [.sl 1 (a1.map eB) none]] S (fun r_ S_ => r_ = u64 r ∧ Own S [] S_ []) := by
  unfold bitpack_Unpack_c1_s0.f at h
  refine acalls_of Try.func76 rfl ?_
  have hh := Own.nil (S := S)
  refine AT_forget 0x3 (mkS 14 [(0, i64 a0), (1, .pt [.sl 1 (a1.map eB) none])]) (by kernel_rfl) ?_
  refine zsr ?_
  refine seg 1 [0, 1] [] [] (by kernel_rfl) (by kernel_rfl) ?_
  refine znsr ?_
  refine segc 3 [0, 4, 6] [(4, .sl 1 (a1.map eB) none), (6, i64 (IntKind.wrap .i64 (Int.tdiv a0 8)))] ((8 : Int) ≠ 0) [3, 4, 5, 6, 7, 8, 9, 10] (by kernel_rfl) (by kernel_rfl) ((by show (8 : Int) ≠ 0; decide)) ?_
  obtain ⟨hi2, h⟩ := is h
  refine segc 1 [0, 7] [(7, .pt ((a1.map eB).getD (IntKind.wrap .i64 (Int.tdiv a0 8) : Int).toNat []))] (0 ≤ (IntKind.wrap .i64 (Int.tdiv a0 8)) ∧ (IntKind.wrap .i64 (Int.tdiv a0 8)) < ((a1.map eB).length : Int)) [4, 5, 6, 7, 8, 9, 10] (by kernel_rfl) (by kernel_rfl) (idx_ok hi2) ?_
  refine tod 7 (.pt ((a1.map eB).getD (IntKind.wrap .i64 (Int.tdiv a0 8) : Int).toNat [])) (.pt [u8 ((rd a1 (IntKind.wrap .i64 (Int.tdiv a0 8)) 0).toNat : Int)]) (by kernel_rfl) (by rw [pt_rd eB a1 (IntKind.wrap .i64 (Int.tdiv a0 8)) 0 hi2.1 hi2.2]) ?_
  refine segc 3 [8, 10] [(8, u8 ((rd a1 (IntKind.wrap .i64 (Int.tdiv a0 8)) 0).toNat : Int)), (10, i64 (Int.tmod a0 8))] ((8 : Int) ≠ 0) [7, 8, 9, 10] (by kernel_rfl) (by kernel_rfl) ((by show (8 : Int) ≠ 0; decide)) ?_
  obtain ⟨hi4, h⟩ := is h
  refine segc 1 [11] [(11, u8 (Int.fdiv ((rd a1 (IntKind.wrap .i64 (Int.tdiv a0 8)) 0).toNat : Int) (2 ^ min (Int.tmod a0 8 : Int).toNat 8)))] (0 ≤ (Int.tmod a0 8)) [8, 9, 10] (by kernel_rfl) (by kernel_rfl) (hi4) ?_
  refine tod 11 (u8 (Int.fdiv ((rd a1 (IntKind.wrap .i64 (Int.tdiv a0 8)) 0).toNat : Int) (2 ^ min (Int.tmod a0 8 : Int).toNat 8))) (u8 ((b8 (Int.fdiv ((rd a1 (IntKind.wrap .i64 (Int.tdiv a0 8)) 0).toNat : Int) (2 ^ min (Int.tmod a0 8 : Int).toNat 8))).toNat : Int)) (by kernel_rfl) (by rw [b8_shr (n := ((rd a1 (IntKind.wrap .i64 (Int.tdiv a0 8)) 0).toNat : Int)) (min (Int.tmod a0 8 : Int).toNat 8) (by omega) (by have := ((rd a1 (IntKind.wrap .i64 (Int.tdiv a0 8)) 0)).toNat_lt; omega)]) ?_
  refine seg 1 [12] [(12, u8 (ibits .and .u8 ((b8 (Int.fdiv ((rd a1 (IntKind.wrap .i64 (Int.tdiv a0 8)) 0).toNat : Int) (2 ^ min (Int.tmod a0 8 : Int).toNat 8))).toNat : Int) 1))] [9, 10] (by kernel_rfl) (by kernel_rfl) ?_
  refine tod 12 (u8 (ibits .and .u8 ((b8 (Int.fdiv ((rd a1 (IntKind.wrap .i64 (Int.tdiv a0 8)) 0).toNat : Int) (2 ^ min (Int.tmod a0 8 : Int).toNat 8))).toNat : Int) 1)) (u8 ((b8 (ibits .and .u8 ((b8 (Int.fdiv ((rd a1 (IntKind.wrap .i64 (Int.tdiv a0 8)) 0).toNat : Int) (2 ^ min (Int.tmod a0 8 : Int).toNat 8))).toNat : Int) 1)).toNat : Int)) (by kernel_rfl) (by rw [show ((b8 (ibits .and .u8 ((b8 (Int.fdiv ((rd a1 (IntKind.wrap .i64 (Int.tdiv a0 8)) 0).toNat : Int) (2 ^ min (Int.tmod a0 8 : Int).toNat 8))).toNat : Int) 1)).toNat : Int) = ibits .and .u8 ((b8 (Int.fdiv ((rd a1 (IntKind.wrap .i64 (Int.tdiv a0 8)) 0).toNat : Int) (2 ^ min (Int.tmod a0 8 : Int).toNat 8))).toNat : Int) 1 from b8_bits _ _ _]) ?_
  refine seg 1 [13] [(13, u64 (IntKind.wrap .u64 ((b8 (ibits .and .u8 ((b8 (Int.fdiv ((rd a1 (IntKind.wrap .i64 (Int.tdiv a0 8)) 0).toNat : Int) (2 ^ min (Int.tmod a0 8 : Int).toNat 8))).toNat : Int) 1)).toNat : Int)))] [10] (by kernel_rfl) (by kernel_rfl) ?_
  refine seg 1 [3] [(3, u64 (IntKind.wrap .u64 ((b8 (ibits .and .u8 ((b8 (Int.fdiv ((rd a1 (IntKind.wrap .i64 (Int.tdiv a0 8)) 0).toNat : Int) (2 ^ min (Int.tmod a0 8 : Int).toNat 8))).toNat : Int) 1)).toNat : Int)))] [] (by kernel_rfl) (by kernel_rfl) ?_
  refine zn ?_
  refine AT_ret ?_
  have e_ := Option.some.inj h
  subst e_
  exact ⟨[u64 (IntKind.wrap .u64 ((b8 (ibits .and .u8 ((b8 (Int.fdiv ((rd a1 (IntKind.wrap .i64 (Int.tdiv a0 8)) 0).toNat : Int) (2 ^ min (Int.tmod a0 8 : Int).toNat 8))).toNat : Int) 1)).toNat : Int))], _, S, (.of (by kernel_rfl)), D.le.refl _, Store.le.refl _, rfl, hh⟩
mutual
def bitpack_Unpack.l1 : Nat → (List UInt8) → Int → Int → Int → Int → Int → (List Int) → Option ((List Int) × Bool)
  | 0, _, _, _, _, _, _, _ => none
  | k + 1, a0, a1, a2, v1, x5, x8, x9 => if (decide (x8 < a1)) = true then (if 0 ≤ x5 ∧ x5 < (((a2 : Int).toNat : Nat) : Int) then ((bitpack_Unpack_c1_s0.f (IntKind.wrap .i64 ((IntKind.wrap .i64 (x5 * a1)) + x8)) a0).bind fun v5 => (if 0 ≤ x8 then (if 0 ≤ x5 ∧ x5 < (((a2 : Int).toNat : Nat) : Int) then (bitpack_Unpack.l1 k a0 a1 a2 v1 x5 (IntKind.wrap .i64 (x8 + 1)) (setI x9 x5 (ibits .or .u64 (rd x9 x5 0) (IntKind.wrap .u64 (v5 * 2 ^ min (x8 : Int).toNat 64))))) else none) else none)) else none) else (bitpack_Unpack.l0 k a0 a1 a2 v1 (IntKind.wrap .i64 (x5 + 1)) x9)
def bitpack_Unpack.l2 : Nat → (List UInt8) → Int → Int → (List Int) → Int → Option ((List Int) × Bool)
  | 0, _, _, _, _, _ => none
  | k + 1, a0, a2, v1, x6, x10 => if (decide (x10 < (IntKind.wrap .i64 (8 * v1)))) = true then ((bitpack_Unpack_c1_s0.f x10 a0).bind fun v6 => (if (v6 != 0) = true then (some ([], false)) else (bitpack_Unpack.l2 k a0 a2 v1 x6 (IntKind.wrap .i64 (x10 + 1))))) else (some (x6, true))
def bitpack_Unpack.l0 : Nat → (List UInt8) → Int → Int → Int → Int → (List Int) → Option ((List Int) × Bool)
  | 0, _, _, _, _, _, _ => none
  | k + 1, a0, a1, a2, v1, x5, x6 => if (decide (x5 < a2)) = true then (bitpack_Unpack.l1 k a0 a1 a2 v1 x5 0 x6) else (bitpack_Unpack.l2 k a0 a2 v1 x6 (IntKind.wrap .i64 (a1 * a2)))
end
def bitpack_Unpack.f (k : Nat) (a0 : (List UInt8)) (a1 : Int) (a2 : Int) : Option ((List Int) × Bool) := (bitpack_Bytes.f a1 a2).bind fun v1 => (if (decide (v1 < 0)) = true then (some ([], false)) else (if (v1 != (a0.length : Int)) = true then (some ([], false)) else (if 0 ≤ a2 ∧ (8 : Int) * a2 ≤ 281474976710656 ∧ a2 ≤ 9223372036854775807 then (bitpack_Unpack.l0 k a0 a1 a2 v1 0 (List.replicate ((a2 : Int).toNat) (0 : Int))) else none)))
theorem bitpack_Unpack.mono_l : ∀ k, (∀ y0 y1 y2 y3 y4 y5 y6, LeO (bitpack_Unpack.l1 k y0 y1 y2 y3 y4 y5 y6) (bitpack_Unpack.l1 (k + 1) y0 y1 y2 y3 y4 y5 y6)) ∧ (∀ y0 y1 y2 y3 y4, LeO (bitpack_Unpack.l2 k y0 y1 y2 y3 y4) (bitpack_Unpack.l2 (k + 1) y0 y1 y2 y3 y4)) ∧ (∀ y0 y1 y2 y3 y4 y5, LeO (bitpack_Unpack.l0 k y0 y1 y2 y3 y4 y5) (bitpack_Unpack.l0 (k + 1) y0 y1 y2 y3 y4 y5))
  | 0 => ⟨fun _ _ _ _ _ _ _ r h => (by simp only [bitpack_Unpack.l1] at h; cases h), fun _ _ _ _ _ r h => (by simp only [bitpack_Unpack.l2] at h; cases h), fun _ _ _ _ _ _ r h => (by simp only [bitpack_Unpack.l0] at h; cases h)⟩
  | k + 1 => by
    have ih := bitpack_Unpack.mono_l k
    refine ⟨?_, ?_, ?_⟩
    · intro y0 y1 y2 y3 y4 y5 y6
      rw [bitpack_Unpack.l1, bitpack_Unpack.l1]
      repeat' first
        | exact LeO.refl _
        | exact LeO.none _
        | exact ih.1 _ _ _ _ _ _ _
        | exact ih.2.1 _ _ _ _ _
        | exact ih.2.2 _ _ _ _ _ _
        | refine LeO.ite ?_ ?_
        | refine LeO.bind ?_ (fun _ => ?_)
    · intro y0 y1 y2 y3 y4
      rw [bitpack_Unpack.l2, bitpack_Unpack.l2]
      repeat' first
        | exact LeO.refl _
        | exact LeO.none _
        | exact ih.1 _ _ _ _ _ _ _
        | exact ih.2.1 _ _ _ _ _
        | exact ih.2.2 _ _ _ _ _ _
        | refine LeO.ite ?_ ?_
        | refine LeO.bind ?_ (fun _ => ?_)
    · intro y0 y1 y2 y3 y4 y5
      rw [bitpack_Unpack.l0, bitpack_Unpack.l0]
      repeat' first
        | exact LeO.refl _
        | exact LeO.none _
        | exact ih.1 _ _ _ _ _ _ _
        | exact ih.2.1 _ _ _ _ _
        | exact ih.2.2 _ _ _ _ _ _
        | refine LeO.ite ?_ ?_
        | refine LeO.bind ?_ (fun _ => ?_)
theorem bitpack_Unpack.mono (k : Nat) (a0 : (List UInt8)) (a1 : Int) (a2 : Int) : LeO (bitpack_Unpack.f k a0 a1 a2) (bitpack_Unpack.f (k + 1) a0 a1 a2) := by
  unfold bitpack_Unpack.f
  repeat' first
    | exact LeO.refl _
    | exact LeO.none _
    | exact (bitpack_Unpack.mono_l k).1 _ _ _ _ _ _ _
    | exact (bitpack_Unpack.mono_l k).2.1 _ _ _ _ _
    | exact (bitpack_Unpack.mono_l k).2.2 _ _ _ _ _ _
    | refine LeO.ite ?_ ?_
    | refine LeO.bind ?_ (fun _ => ?_)
theorem bitpack_Unpack.ok (k : Nat) (a0 : (List UInt8)) (a1 : Int) (a2 : Int) (S : Store) (r0 : (List Int)) (r1 : Bool) (h : bitpack_Unpack.f k a0 a1 a2 = some (r0, r1)) : ACalls Try.prog 63 [.sl 1 (a0.map eB) none, i64 a1, i64 a2] S (fun r_ S_ => r_ = .tup [.sl 1 (r0.map eU) none, bo r1] ∧ Own S [] S_ []) := by
  unfold bitpack_Unpack.f at h
  refine acalls_of Try.func63 rfl ?_
  have hh := Own.nil (S := S)
  refine AT_forget 0x7 (mkS 67 [(0, .sl 1 (a0.map eB) none), (1, i64 a1), (2, i64 a2)]) (by kernel_rfl) ?_
  refine zsr ?_
  refine AOps_box_im (ds := [.sl 1 (a0.map eB) none]) (tl_get rfl) rfl rfl (by kernel_rfl) ?_
  refine fg [1, 2, 3] ?_
  refine seg 2 [1, 2, 3] [] [] (by kernel_rfl) (by kernel_rfl) ?_
  refine znsr ?_
  refine seg 2 [1, 2, 3, 14, 15] [(14, i64 a1), (15, i64 a2)] [2, 3] (by kernel_rfl) (by kernel_rfl) ?_
  obtain ⟨v1, ht1, h⟩ := bs h
  refine AOps_callR _ [i64 a1, i64 a2] (tl_get rfl) rfl rfl rfl rfl Try.func59 (by decide) rfl ((.cons (D.le.refl _) (.cons (D.le.refl _) (.nil)))) (bitpack_Bytes.ok a1 a2 _  _ ht1) ?_
  rintro _ S_ ⟨rfl, h2_⟩
  replace hh := hh.call0 h2_
  refine fg [1, 2, 3, 16] ?_
  refine seg 1 [1, 2, 3, 8] [(8, i64 v1)] [] (by kernel_rfl) (by kernel_rfl) ?_
  refine zn ?_
  refine AT_seq ?_
  refine zsr ?_
  refine seg 3 [1, 2, 3, 8, 19] [(19, bo (decide (v1 < 0)))] [3, 4, 5, 6, 7] (by kernel_rfl) (by kernel_rfl) ?_
  refine cased 19 (decide (v1 < 0)) (by kernel_rfl) (fun hc3 => ?_) (fun hc3 => ?_)
  · rw [if_t hc3] at h
    refine seg 5 [1, 2, 3, 8, 24] [(24, bo true)] [] (by kernel_rfl) (by kernel_rfl) ?_
    refine zn ?_
    refine AT_cond_t (by kernel_rfl) ?_
    refine zsr ?_
    refine seg 2 [6, 7] [(6, nilS), (7, bo false)] [] (by kernel_rfl) (by kernel_rfl) ?_
    refine zn ?_
    refine AT_ret ?_
    refine athen_r ?_
    have e0_ : [] = r0 := congrArg (fun p_ => p_.1) (Option.some.inj h)
    have e1_ : false = r1 := congrArg (fun p_ => p_.2) (Option.some.inj h)
    subst e0_
    subst e1_
    exact ⟨[nilS, bo false], _, S_, (.of (by kernel_rfl)), (tup_le (.cons (nil_le) (.cons (D.le.refl _) (.nil)))), Store.le.refl _, rfl, hh⟩
  rw [if_f hc3] at h
  refine seg 3 [1, 2, 3, 8, 19, 20, 22] [(20, i64 v1), (22, i64 ((a0.map eB).length : Int))] [6, 7] (by kernel_rfl) (by kernel_rfl) ?_
  refine tod 22 (i64 ((a0.map eB).length : Int)) (i64 (a0.length : Int)) (by kernel_rfl) (by rw [List.length_map]) ?_
  refine seg 2 [1, 2, 3, 8, 24] [(24, bo (v1 != (a0.length : Int)))] [] (by kernel_rfl) (by kernel_rfl) ?_
  refine zn ?_
  refine AT_condS (v1 != (a0.length : Int)) (by kernel_rfl) (fun hc4 => ?_) (fun hc4 => ?_)
  · rw [if_t hc4] at h
    refine zsr ?_
    refine AOps_seg 2 0xc0 (mkS 67 [(6, nilS), (7, bo false)]) none [] (by kernel_rfl) (by kernel_rfl) trivial ?_
    refine zn ?_
    refine AT_ret ?_
    refine athen_r ?_
    have e0_ : [] = r0 := congrArg (fun p_ => p_.1) (Option.some.inj h)
    have e1_ : false = r1 := congrArg (fun p_ => p_.2) (Option.some.inj h)
    subst e0_
    subst e1_
    exact ⟨[nilS, bo false], _, S_, (.of (by kernel_rfl)), (tup_le (.cons (nil_le) (.cons (D.le.refl _) (.nil)))), Store.le.refl _, rfl, hh⟩
  rw [if_f hc4] at h
  refine zkn ?_
  refine zsr ?_
  refine AOps_seg 2 0x306 (mkS 67 [(1, i64 a1), (2, i64 a2), (8, i64 v1), (9, .fn (.func 76) [] [.pt [.sl 1 (a0.map eB) none]])]) none [] (by kernel_rfl) (by kernel_rfl) trivial ?_
  refine znsr ?_
  refine seg 1 [1, 2, 8, 9, 26] [(26, i64 a2)] [1, 2] (by kernel_rfl) (by kernel_rfl) ?_
  obtain ⟨hi3, h⟩ := is h
  refine AOps_makeRowI (kl := .i64) (kc := .i64) (.int .u64 0) 1 8 eU 0 a2 (tl_get rfl) rfl rfl rfl (by kernel_rfl) rfl (by kernel_rfl) rfl rfl rfl hi3 (fun S_ m1 hf_ u_ => ?_)
  replace hh := hh.obN hf_ u_
  have ln1 : (List.replicate ((a2 : Int).toNat) (0 : Int)).length = (a2 : Int).toNat := rep_len _ _
  refine fg [1, 2, 8, 9, 27] ?_
  refine seg 1 [1, 2, 8, 9, 10] [(10, .vw m1 0 ((a2 : Int).toNat) ((a2 : Int).toNat))] [] (by kernel_rfl) (by kernel_rfl) ?_
  refine zn ?_
  refine AT_seq ?_
  refine zsr ?_
  refine seg 2 [1, 2, 8, 9, 10, 28, 29] [(28, i64 a2), (29, i64 0)] [] (by kernel_rfl) (by kernel_rfl) ?_
  refine zn ?_
  refine AT_block ?_
  refine AT_loopM 0x30000706 (fun k_ sl_ S_ => k_ ≤ k ∧ ∃ (x5 : Int), ∃ (x6 : (List Int)), LeL sl_ (mkS 67 [(1, i64 a1), (2, i64 a2), (8, i64 v1), (9, .fn (.func 76) [] [.pt [.sl 1 (a0.map eB) none]]), (10, .vw m1 0 ((a2 : Int).toNat) ((a2 : Int).toNat)), (28, i64 a2), (29, i64 x5)]) ∧ bitpack_Unpack.l0 k_ a0 a1 a2 v1 x5 x6 = some (r0, r1) ∧ Own S [] S_ [.o m1 (.cells 59 (rowC eU x6))] ∧ List.length x6 = (a2 : Int).toNat) k ⟨Nat.le_refl _, 0, List.replicate ((a2 : Int).toNat) (0 : Int), (le_rf (by kernel_rfl)), h, hh, ln1⟩ ?_
  clear hh h
  rintro k' sl_ S_ ⟨hk_, x5, x6, hl_, h, hh, ln5⟩
  refine AT_weaken hl_ ?_
  obtain _ | k4 := k'
  · cases h
  rw [bitpack_Unpack.l0] at h
  refine zsr ?_
  refine seg 1 [1, 2, 8, 9, 10, 28, 29, 30] [(30, bo (decide (x5 < a2)))] [] (by kernel_rfl) (by kernel_rfl) ?_
  refine zn ?_
  refine AT_seq ?_
  refine AT_condS (decide (x5 < a2)) (by kernel_rfl) (fun hc8 => ?_) (fun hc8 => ?_)
  · rw [if_t hc8] at h
    refine zkn ?_
    refine AT_seq ?_
    refine AT_block ?_
    refine zsr ?_
    refine seg 2 [1, 2, 8, 9, 10, 11, 28, 29] [(11, i64 x5)] [] (by kernel_rfl) (by kernel_rfl) ?_
    refine znsr ?_
    refine seg 2 [1, 2, 8, 9, 10, 11, 28, 29, 32, 33] [(32, i64 a1), (33, i64 0)] [] (by kernel_rfl) (by kernel_rfl) ?_
    refine zn ?_
    refine AT_block ?_
    refine AT_loopM 0x330000f06 (fun k_ sl_ S_ => k_ ≤ k4 ∧ ∃ (x8 : Int), ∃ (x9 : (List Int)), LeL sl_ (mkS 67 [(1, i64 a1), (2, i64 a2), (8, i64 v1), (9, .fn (.func 76) [] [.pt [.sl 1 (a0.map eB) none]]), (10, .vw m1 0 ((a2 : Int).toNat) ((a2 : Int).toNat)), (11, i64 x5), (28, i64 a2), (29, i64 x5), (32, i64 a1), (33, i64 x8)]) ∧ bitpack_Unpack.l1 k_ a0 a1 a2 v1 x5 x8 x9 = some (r0, r1) ∧ Own S [] S_ [.o m1 (.cells 59 (rowC eU x9))] ∧ List.length x9 = (a2 : Int).toNat) k4 ⟨Nat.le_refl _, 0, x6, (le_rf (by kernel_rfl)), h, hh, ln5⟩ ?_
    clear hh h
    rintro k' sl_ S_ ⟨hk_, x8, x9, hl_, h, hh, ln7⟩
    refine AT_weaken hl_ ?_
    obtain _ | k6 := k'
    · cases h
    rw [bitpack_Unpack.l1] at h
    refine zsr ?_
    refine seg 1 [1, 2, 8, 9, 10, 11, 28, 29, 32, 33, 34] [(34, bo (decide (x8 < a1)))] [] (by kernel_rfl) (by kernel_rfl) ?_
    refine zn ?_
    refine AT_seq ?_
    refine AT_condR (decide (x8 < a1)) (by kernel_rfl) (fun hc10 => ?_) (fun hc10 => ?_)
    · rw [if_f hc10] at h
      refine AT_exit ?_
      refine athen_e ?_
      refine athen_e ?_
      refine ablock_h ?_
      refine ablock_n ?_
      refine athen_n ?_
      refine AT_region ?_
      refine seg 2 [1, 2, 8, 9, 10, 28, 29] [(29, i64 (IntKind.wrap .i64 (x5 + 1)))] [] (by kernel_rfl) (by kernel_rfl) ?_
      refine zn ?_
      exact ⟨k6, (by omega), (by omega), IntKind.wrap .i64 (x5 + 1), x9, (le_rf (by kernel_rfl)), h, hh, ln7⟩
    rw [if_t hc10] at h
    refine zkn ?_
    refine AT_seq ?_
    refine AT_block ?_
    refine zsr ?_
    refine seg 2 [1, 2, 8, 9, 10, 11, 12, 28, 29, 32, 33] [(12, i64 x8)] [] (by kernel_rfl) (by kernel_rfl) ?_
    refine zn ?_
    refine AT_draw [10, 15] 15 (fun S_ => S_.ob m1 = some (.cells 59 (rowC eU x9))) (by kernel_rfl) ?_
    refine aseg 16 [] [1, 2, 8, 9, 10, 11, 12, 28, 29, 32, 33] [] #[false, false, false, false, false, false, false, false, false, false, false, false, false, false, false, false] (by kernel_rfl) (by kernel_rfl) ?_
    obtain ⟨hi13, h⟩ := is h
    refine asegc 13 [0, 1, 2] [1, 2, 8, 9, 10, 11, 12, 28, 29, 32, 33, 36, 37, 38] [(36, .vw m1 0 ((a2 : Int).toNat) ((a2 : Int).toNat)), (37, i64 x5), (38, .ob m1 (0 + (x5 : Int).toNat * 1))] (0 ≤ x5 ∧ x5 < (((a2 : Int).toNat : Nat) : Int)) #[true, true, true, false, false, false, false, false, false, false, false, false, false, false, false, false] (by kernel_rfl) (hi13) (by kernel_rfl) ?_
    refine AAny_rowLoadI (i := 3) (E := eU) (sz := 1) (r := x9) (T := 59) x5 0 0 (u64 (rd x9 x5 0)) (tl_get rfl) (by kernel_rfl) rfl rfl rfl (fun _ h_ => h_) (by kernel_rfl) (fun _ => rfl) (by omega) (by have := ln7; omega) (.inr ⟨by kernel_rfl, by decide, by kernel_rfl⟩) ?_
    refine afg [1, 2, 8, 9, 10, 11, 12, 28, 29, 32, 33, 36, 37, 39] #[true, true, true, true, false, false, false, false, false, false, false, false, false, false, false, false] (by kernel_rfl) ?_
    refine aseg 6 [4, 5, 6, 7, 8, 9] [1, 2, 8, 9, 10, 11, 12, 28, 29, 32, 33, 36, 37, 39, 40, 45] [(40, .fn (.func 76) [] [.pt [.sl 1 (a0.map eB) none]]), (45, i64 (IntKind.wrap .i64 ((IntKind.wrap .i64 (x5 * a1)) + x8)))] #[true, true, true, true, true, true, true, true, true, true, false, false, false, false, false, false] (by kernel_rfl) (by kernel_rfl) ?_
    refine aseg 5 [11] [1, 2, 8, 9, 10, 11, 28, 29, 32, 33, 36, 37, 39, 40, 45, 47] [(47, i64 x8)] #[true, true, true, true, true, true, true, true, true, true, false, true, false, false, false, false] (by kernel_rfl) (by kernel_rfl) ?_
    refine AAny_eff (fuel := 4) 10 (.inr (hh.ob 0 (by kernel_rfl))) (tl_get rfl) (by kernel_rfl) (by kernel_rfl) (by kernel_rfl) ?_
    obtain ⟨v5, ht5, h⟩ := bs h
    refine AOps_callR _ [i64 (IntKind.wrap .i64 ((IntKind.wrap .i64 (x5 * a1)) + x8)), .pt [.sl 1 (a0.map eB) none]] (tl_get rfl) rfl rfl rfl rfl Try.func76 (by decide) rfl ((.cons (D.le.refl _) (.cons (D.le.refl _) (.nil)))) (bitpack_Unpack_c1_s0.ok (IntKind.wrap .i64 ((IntKind.wrap .i64 (x5 * a1)) + x8)) a0 _  _ ht5) ?_
    rintro _ S_ ⟨rfl, h2_⟩
    replace hh := hh.call0 h2_
    refine AOps_end ⟨rfl, _, rfl, ?_⟩; refine afg [1, 2, 8, 9, 10, 11, 28, 29, 32, 33, 36, 37, 39, 46, 47] #[true, true, true, true, true, true, true, true, true, true, true, true, false, false, false, false] (by kernel_rfl) ?_
    obtain ⟨hi14, h⟩ := is h
    refine AAny_seg 3 [12] 0x700b330000f06 (mkS 67 [(1, i64 a1), (2, i64 a2), (8, i64 v1), (9, .fn (.func 76) [] [.pt [.sl 1 (a0.map eB) none]]), (10, .vw m1 0 ((a2 : Int).toNat) ((a2 : Int).toNat)), (11, i64 x5), (28, i64 a2), (29, i64 x5), (32, i64 a1), (33, i64 x8), (36, .vw m1 0 ((a2 : Int).toNat) ((a2 : Int).toNat)), (37, i64 x5), (39, u64 (rd x9 x5 0)), (48, u64 (IntKind.wrap .u64 (v5 * 2 ^ min (x8 : Int).toNat 64)))]) (some (0 ≤ x8)) #[true, true, true, true, true, true, true, true, true, true, true, true, true, false, false, false] (by kernel_rfl) (hi14) (by kernel_rfl) ?_
    refine aseg 2 [13] [1, 2, 8, 9, 10, 11, 28, 29, 32, 33, 36, 37, 49] [(49, u64 (ibits .or .u64 (rd x9 x5 0) (IntKind.wrap .u64 (v5 * 2 ^ min (x8 : Int).toNat 64))))] #[true, true, true, true, true, true, true, true, true, true, true, true, true, true, false, false] (by kernel_rfl) (by kernel_rfl) ?_
    obtain ⟨hi15, h⟩ := is h
    refine asegc 1 [14] [1, 2, 8, 9, 10, 11, 28, 29, 32, 33, 49, 50] [(50, .ob m1 (0 + (x5 : Int).toNat * 1))] (0 ≤ x5 ∧ x5 < (((a2 : Int).toNat : Nat) : Int)) #[true, true, true, true, true, true, true, true, true, true, true, true, true, true, true, false] (by kernel_rfl) (hi15) (by kernel_rfl) ?_
    refine AAny_eff (fuel := 0) 15 (.inr (hh.ob 0 (by kernel_rfl))) (tl_get rfl) (by kernel_rfl) (by kernel_rfl) (by kernel_rfl) ?_
    refine AOps_rowPut (E := eU) (sz := 1) (r := x9) (T := 59) (ds := [u64 (ibits .or .u64 (rd x9 x5 0) (IntKind.wrap .u64 (v5 * 2 ^ min (x8 : Int).toNat 64)))]) x5 0 0 (ibits .or .u64 (rd x9 x5 0) (IntKind.wrap .u64 (v5 * 2 ^ min (x8 : Int).toNat 64))) (tl_get rfl) rfl rfl rfl (hh.ob 0 (by kernel_rfl)) (fun _ => rfl) (by omega) (by have := ln7; omega) rfl (by kernel_rfl) (Nat.le_of_ble_eq_true rfl) rfl (fun S_ u_ => ?_)
    replace hh := hh.obS' 0 (by kernel_rfl) u_
    have ln8 : (setI x9 x5 (ibits .or .u64 (rd x9 x5 0) (IntKind.wrap .u64 (v5 * 2 ^ min (x8 : Int).toNat 64)))).length = (a2 : Int).toNat := setI_len _ _ ln7
    refine AOps_end ⟨rfl, _, rfl, ?_⟩; refine afg0 [1, 2, 8, 9, 10, 11, 28, 29, 32, 33] #[true, true, true, true, true, true, true, true, true, true, true, true, true, true, true, true] (by kernel_rfl) ?_
    refine AAny_end (.inl (by kernel_rfl)) (by kernel_rfl) ?_
    refine ablock_n ?_
    refine athen_n ?_
    refine AT_region ?_
    refine seg 2 [1, 2, 8, 9, 10, 11, 28, 29, 32, 33] [(33, i64 (IntKind.wrap .i64 (x8 + 1)))] [] (by kernel_rfl) (by kernel_rfl) ?_
    refine zn ?_
    exact ⟨k6, (by omega), (by omega), IntKind.wrap .i64 (x8 + 1), setI x9 x5 (ibits .or .u64 (rd x9 x5 0) (IntKind.wrap .u64 (v5 * 2 ^ min (x8 : Int).toNat 64))), (le_rf (by kernel_rfl)), h, hh, ln8⟩
  rw [if_f hc8] at h
  refine AT_exit ?_
  refine athen_e ?_
  refine athen_e ?_
  refine ablock_h ?_
  refine athen_n ?_
  refine AT_seq ?_
  refine zsr ?_
  refine seg 4 [8, 9, 10, 13] [(13, i64 (IntKind.wrap .i64 (a1 * a2)))] [] (by kernel_rfl) (by kernel_rfl) ?_
  refine zn ?_
  refine AT_block ?_
  refine AT_loopM 0x2700 (fun k_ sl_ S_ => k_ ≤ k4 ∧ ∃ (x10 : Int), LeL sl_ (mkS 67 [(8, i64 v1), (9, .fn (.func 76) [] [.pt [.sl 1 (a0.map eB) none]]), (10, .vw m1 0 ((a2 : Int).toNat) ((a2 : Int).toNat)), (13, i64 x10)]) ∧ bitpack_Unpack.l2 k_ a0 a2 v1 x6 x10 = some (r0, r1) ∧ Own S [] S_ [.o m1 (.cells 59 (rowC eU x6))]) k4 ⟨Nat.le_refl _, IntKind.wrap .i64 (a1 * a2), (le_rf (by kernel_rfl)), h, hh⟩ ?_
  clear hh h
  rintro k' sl_ S_ ⟨hk_, x10, hl_, h, hh⟩
  refine AT_weaken hl_ ?_
  obtain _ | k7 := k'
  · cases h
  rw [bitpack_Unpack.l2] at h
  refine AT_seq ?_
  refine zsr ?_
  refine seg 4 [8, 9, 10, 13, 59] [(59, bo (decide (x10 < (IntKind.wrap .i64 (8 * v1)))))] [] (by kernel_rfl) (by kernel_rfl) ?_
  refine zn ?_
  refine AT_condR (decide (x10 < (IntKind.wrap .i64 (8 * v1)))) (by kernel_rfl) (fun hc11 => ?_) (fun hc11 => ?_)
  · rw [if_f hc11] at h
    refine AT_exit ?_
    refine athen_e ?_
    refine athen_e ?_
    refine ablock_h ?_
    refine athen_n ?_
    refine zsr ?_
    refine seg 3 [6, 7] [(6, .vw m1 0 ((a2 : Int).toNat) ((a2 : Int).toNat)), (7, bo true)] [] (by kernel_rfl) (by kernel_rfl) ?_
    refine zn ?_
    refine AT_forget 0xc0 (mkS 67 [(6, .vw m1 0 ((a2 : Int).toNat) ((a2 : Int).toNat)), (7, bo true)]) (by kernel_rfl) ?_
    refine AT_rowOut (m := 67) (ps := [(6, .vw m1 0 ((a2 : Int).toNat) ((a2 : Int).toNat)), (7, bo true)]) (ps' := [(6, .sl 1 (x6.map eU) none), (7, bo true)]) (T := 59) (E := eU) (sz := 1) (r := x6) (hh.ob 0 (by kernel_rfl)) (fun _ => rfl) (.row ln5.symm (Nat.le_of_eq rfl) (.same _ .nil)) (fun S_ u_ => ?_)
    replace hh := hh.gone 0 (by kernel_rfl) u_ [] (by decide) rfl
    refine AT_ret ?_
    have e0_ : x6 = r0 := congrArg (fun p_ => p_.1) (Option.some.inj h)
    have e1_ : true = r1 := congrArg (fun p_ => p_.2) (Option.some.inj h)
    subst e0_
    subst e1_
    exact ⟨[.sl 1 (x6.map eU) none, bo true], _, S_, (.of (by kernel_rfl)), D.le.refl _, Store.le.refl _, rfl, hh⟩
  rw [if_t hc11] at h
  refine zkn ?_
  refine AT_seq ?_
  refine AT_block ?_
  refine zsr ?_
  refine seg 2 [8, 9, 10, 13, 62, 63] [(62, .fn (.func 76) [] [.pt [.sl 1 (a0.map eB) none]]), (63, i64 x10)] [2, 3] (by kernel_rfl) (by kernel_rfl) ?_
  obtain ⟨v6, ht6, h⟩ := bs h
  refine AOps_callR _ [i64 x10, .pt [.sl 1 (a0.map eB) none]] (tl_get rfl) rfl rfl rfl rfl Try.func76 (by decide) rfl ((.cons (D.le.refl _) (.cons (D.le.refl _) (.nil)))) (bitpack_Unpack_c1_s0.ok x10 a0 _  _ ht6) ?_
  rintro _ S_ ⟨rfl, h2_⟩
  replace hh := hh.call0 h2_
  refine fg [8, 9, 10, 13, 64] ?_
  refine seg 1 [8, 9, 10, 13, 65] [(65, bo (v6 != 0))] [] (by kernel_rfl) (by kernel_rfl) ?_
  refine zn ?_
  refine AT_condR (v6 != 0) (by kernel_rfl) (fun hc12 => ?_) (fun hc12 => ?_)
  · rw [if_f hc12] at h
    refine AT_skip ?_
    refine ablock_n ?_
    refine athen_n ?_
    refine AT_region ?_
    refine seg 3 [8, 9, 10, 13] [(13, i64 (IntKind.wrap .i64 (x10 + 1)))] [] (by kernel_rfl) (by kernel_rfl) ?_
    refine zn ?_
    exact ⟨k7, (by omega), (by omega), IntKind.wrap .i64 (x10 + 1), (le_rf (by kernel_rfl)), h, hh⟩
  rw [if_t hc12] at h
  refine zsr ?_
  refine seg 2 [6, 7] [(6, nilS), (7, bo false)] [] (by kernel_rfl) (by kernel_rfl) ?_
  refine zn ?_
  refine AT_ret ?_
  refine ablock_r ?_
  refine athen_r ?_
  refine athen_r ?_
  refine ablock_r ?_
  refine athen_r ?_
  have e0_ : [] = r0 := congrArg (fun p_ => p_.1) (Option.some.inj h)
  have e1_ : false = r1 := congrArg (fun p_ => p_.2) (Option.some.inj h)
  subst e0_
  subst e1_
  exact ⟨[nilS, bo false], _, S_, (.of (by kernel_rfl)), (tup_le (.cons (nil_le) (.cons (D.le.refl _) (.nil)))), Store.le.refl _, rfl, (hh.sub [] (by decide) (by kernel_rfl))⟩
end Go.Proofs.Ytfaojkajlpojlaa.Abs
