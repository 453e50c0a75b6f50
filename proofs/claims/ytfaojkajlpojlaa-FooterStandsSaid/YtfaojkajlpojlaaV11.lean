/- What functions of the program compute, each with the proof that it does (printed by wip/gen/all2.py). -/
import Derived.Test.YtfaojkajlpojlaaV10
import Derived.KernelRfl
namespace Go.Proofs.Ytfaojkajlpojlaa.Abs
open Go
set_option maxRecDepth 100000
mutual
def footer_Decode.l2 : Nat → (List Col) → Int → Int → Int → (List Group) → Int → Int → (List (List PageInfo)) → Int → (List PageInfo) → Int → (List UInt8) → Bool → Option (Footer × Bool)
  | 0, _, _, _, _, _, _, _, _, _, _, _, _, _ => none
  | k + 1, v101, v103, v105, x58, x61, v152, x69, x72, v174, x75, x76, x77, x78 => if (decide (x76 < v174)) = true then ((varint_Len_s0.f k (⟨x77, x78⟩ : Cursor) 268435456).bind fun q_v185 => ((varint_Len_s0.f k q_v185.2 65536).bind fun q_v187 => ((stat_Get_s0.f k q_v187.2 ((rd v101 x69 Col.zero).Type_)).bind fun q_v189 => (if (x75.length + 1) * 128 ≤ 140737488355328 then ((cursor_Cursor_Bad_s0.f q_v189.2).bind fun v191 => (if v191 = true then ((cursor_Cursor_End_s0.f q_v189.2).bind fun v192 => (if (!v192) = true then (some ((⟨([] : List Col), 0, ([] : List Group)⟩ : Footer), false)) else ((footer_Right.f k (⟨v101, v103, x61⟩ : Footer)).bind fun v193 => (if (!v193) = true then (some ((⟨([] : List Col), 0, ([] : List Group)⟩ : Footer), false)) else (some ((⟨v101, v103, x61⟩ : Footer), true)))))) else (footer_Decode.l2 k v101 v103 v105 x58 x61 v152 x69 x72 v174 (x75 ++ ([(⟨q_v185.1, q_v187.1, q_v189.1⟩ : PageInfo)] : List PageInfo)) (IntKind.wrap .i64 (x76 + 1)) q_v189.2.left q_v189.2.bad))) else none)))) else (if (x72.length + 1) * 24 ≤ 140737488355328 then (footer_Decode.l1 k v101 v103 v105 x58 x61 v152 (IntKind.wrap .i64 (x69 + 1)) x77 x78 (x72 ++ ([x75] : List (List PageInfo)))) else none)
def footer_Decode.l1 : Nat → (List Col) → Int → Int → Int → (List Group) → Int → Int → (List UInt8) → Bool → (List (List PageInfo)) → Option (Footer × Bool)
  | 0, _, _, _, _, _, _, _, _, _, _ => none
  | k + 1, v101, v103, v105, x58, x61, v152, x69, x70, x71, x72 => if (decide (x69 < (v101.length : Int))) = true then (if 0 ≤ x69 ∧ x69 < (v101.length : Int) then ((varint_Len_s0.f k (⟨x70, x71⟩ : Cursor) 65536).bind fun q_v174 => (footer_Decode.l2 k v101 v103 v105 x58 x61 v152 x69 x72 q_v174.1 ([] : List PageInfo) 0 q_v174.2.left q_v174.2.bad)) else none) else (if (x61.length + 1) * 32 ≤ 140737488355328 then ((cursor_Cursor_Bad_s0.f (⟨x70, x71⟩ : Cursor)).bind fun v194 => (if v194 = true then ((cursor_Cursor_End_s0.f (⟨x70, x71⟩ : Cursor)).bind fun v195 => (if (!v195) = true then (some ((⟨([] : List Col), 0, ([] : List Group)⟩ : Footer), false)) else ((footer_Right.f k (⟨v101, v103, x61 ++ ([(⟨v152, x72⟩ : Group)] : List Group)⟩ : Footer)).bind fun v196 => (if (!v196) = true then (some ((⟨([] : List Col), 0, ([] : List Group)⟩ : Footer), false)) else (some ((⟨v101, v103, x61 ++ ([(⟨v152, x72⟩ : Group)] : List Group)⟩ : Footer), true)))))) else (footer_Decode.l0 k v101 v103 v105 (IntKind.wrap .i64 (x58 + 1)) ((⟨x70, x71⟩ : Cursor).left) ((⟨x70, x71⟩ : Cursor).bad) (x61 ++ ([(⟨v152, x72⟩ : Group)] : List Group))))) else none)
def footer_Decode.l0 : Nat → (List Col) → Int → Int → Int → (List UInt8) → Bool → (List Group) → Option (Footer × Bool)
  | 0, _, _, _, _, _, _, _ => none
  | k + 1, v101, v103, v105, x58, x59, x60, x61 => if (decide (x58 < v105)) = true then ((varint_Len_s0.f k (⟨x59, x60⟩ : Cursor) 65536).bind fun q_v152 => (footer_Decode.l1 k v101 v103 v105 x58 x61 q_v152.1 0 q_v152.2.left q_v152.2.bad ([] : List (List PageInfo)))) else ((cursor_Cursor_End_s0.f (⟨x59, x60⟩ : Cursor)).bind fun v197 => (if (!v197) = true then (some ((⟨([] : List Col), 0, ([] : List Group)⟩ : Footer), false)) else ((footer_Right.f k (⟨v101, v103, x61⟩ : Footer)).bind fun v198 => (if (!v198) = true then (some ((⟨([] : List Col), 0, ([] : List Group)⟩ : Footer), false)) else (some ((⟨v101, v103, x61⟩ : Footer), true))))))
end
def footer_Decode.f (k : Nat) (a0 : (List UInt8)) : Option (Footer × Bool) := (slices_Clone_byte.f a0).bind fun v100 => ((schema_Get_s0.f k (⟨v100, false⟩ : Cursor)).bind fun q_v101 => ((varint_Len_s0.f k q_v101.2 65536).bind fun q_v103 => ((varint_Len_s0.f k q_v103.2 65536).bind fun q_v105 => (footer_Decode.l0 k q_v101.1 q_v103.1 q_v105.1 0 q_v105.2.left q_v105.2.bad ([] : List Group)))))
theorem footer_Decode.mono_l : ∀ k, (∀ y0 y1 y2 y3 y4 y5 y6 y7 y8 y9 y10 y11 y12, LeO (footer_Decode.l2 k y0 y1 y2 y3 y4 y5 y6 y7 y8 y9 y10 y11 y12) (footer_Decode.l2 (k + 1) y0 y1 y2 y3 y4 y5 y6 y7 y8 y9 y10 y11 y12)) ∧ (∀ y0 y1 y2 y3 y4 y5 y6 y7 y8 y9, LeO (footer_Decode.l1 k y0 y1 y2 y3 y4 y5 y6 y7 y8 y9) (footer_Decode.l1 (k + 1) y0 y1 y2 y3 y4 y5 y6 y7 y8 y9)) ∧ (∀ y0 y1 y2 y3 y4 y5 y6, LeO (footer_Decode.l0 k y0 y1 y2 y3 y4 y5 y6) (footer_Decode.l0 (k + 1) y0 y1 y2 y3 y4 y5 y6))
  | 0 => ⟨fun _ _ _ _ _ _ _ _ _ _ _ _ _ r h => (by simp only [footer_Decode.l2] at h; cases h), fun _ _ _ _ _ _ _ _ _ _ r h => (by simp only [footer_Decode.l1] at h; cases h), fun _ _ _ _ _ _ _ r h => (by simp only [footer_Decode.l0] at h; cases h)⟩
  | k + 1 => by
    have ih := footer_Decode.mono_l k
    refine ⟨?_, ?_, ?_⟩
    · intro y0 y1 y2 y3 y4 y5 y6 y7 y8 y9 y10 y11 y12
      rw [footer_Decode.l2, footer_Decode.l2]
      repeat' first
        | exact LeO.refl _
        | exact LeO.none _
        | exact ih.1 _ _ _ _ _ _ _ _ _ _ _ _ _
        | exact ih.2.1 _ _ _ _ _ _ _ _ _ _
        | exact ih.2.2 _ _ _ _ _ _ _
        | exact footer_Right.mono _ _
        | exact schema_Get_s0.mono _ _
        | exact stat_Get_s0.mono _ _ _
        | exact varint_Len_s0.mono _ _ _
        | refine LeO.ite ?_ ?_
        | refine LeO.bind ?_ (fun _ => ?_)
    · intro y0 y1 y2 y3 y4 y5 y6 y7 y8 y9
      rw [footer_Decode.l1, footer_Decode.l1]
      repeat' first
        | exact LeO.refl _
        | exact LeO.none _
        | exact ih.1 _ _ _ _ _ _ _ _ _ _ _ _ _
        | exact ih.2.1 _ _ _ _ _ _ _ _ _ _
        | exact ih.2.2 _ _ _ _ _ _ _
        | exact footer_Right.mono _ _
        | exact schema_Get_s0.mono _ _
        | exact stat_Get_s0.mono _ _ _
        | exact varint_Len_s0.mono _ _ _
        | refine LeO.ite ?_ ?_
        | refine LeO.bind ?_ (fun _ => ?_)
    · intro y0 y1 y2 y3 y4 y5 y6
      rw [footer_Decode.l0, footer_Decode.l0]
      repeat' first
        | exact LeO.refl _
        | exact LeO.none _
        | exact ih.1 _ _ _ _ _ _ _ _ _ _ _ _ _
        | exact ih.2.1 _ _ _ _ _ _ _ _ _ _
        | exact ih.2.2 _ _ _ _ _ _ _
        | exact footer_Right.mono _ _
        | exact schema_Get_s0.mono _ _
        | exact stat_Get_s0.mono _ _ _
        | exact varint_Len_s0.mono _ _ _
        | refine LeO.ite ?_ ?_
        | refine LeO.bind ?_ (fun _ => ?_)
theorem footer_Decode.mono (k : Nat) (a0 : (List UInt8)) : LeO (footer_Decode.f k a0) (footer_Decode.f (k + 1) a0) := by
  unfold footer_Decode.f
  repeat' first
    | exact LeO.refl _
    | exact LeO.none _
    | exact (footer_Decode.mono_l k).1 _ _ _ _ _ _ _ _ _ _ _ _ _
    | exact (footer_Decode.mono_l k).2.1 _ _ _ _ _ _ _ _ _ _
    | exact (footer_Decode.mono_l k).2.2 _ _ _ _ _ _ _
    | exact footer_Right.mono _ _
    | exact schema_Get_s0.mono _ _
    | exact stat_Get_s0.mono _ _ _
    | exact varint_Len_s0.mono _ _ _
    | refine LeO.ite ?_ ?_
    | refine LeO.bind ?_ (fun _ => ?_)
theorem footer_Decode.ok (k : Nat) (a0 : (List UInt8)) (S : Store) (r0 : Footer) (r1 : Bool) (h : footer_Decode.f k a0 = some (r0, r1)) : ACalls Try.prog 10 [.sl 1 (a0.map eB) none] S (fun r_ S_ => r_ = .tup [.ag (Footer.enc r0), bo r1] ∧ Own S [] S_ []) := by
  unfold footer_Decode.f at h
  refine acalls_of Try.func10 rfl ?_
  have hh := Own.nil (S := S)
  refine AT_forget 0x1 (mkS 81 [(0, .sl 1 (a0.map eB) none)]) (by kernel_rfl) ?_
  refine zsr ?_
  refine AOps_allocV (ds := [nilS, i64 0, nilS]) (cs' := [.sl 3 (([] : List Col).map Col.enc) none, i64 0, nilS]) (tl_get rfl) rfl rfl (by kernel_rfl) (.cons (nil_le) (.cons (D.le.refl _) (.cons (D.le.refl _) (.nil)))) (fun S_ m1 hf_ u_ => ?_)
  replace hh := hh.obN hf_ u_
  refine AOps_nilO (k := m1) (T := 25) (cs := [.sl 3 (([] : List Col).map Col.enc) none, i64 0, nilS]) 2 2 (hh.ob 0 (by kernel_rfl)) rfl (fun S_ t1 hf_ h1_ h2_ h3_ => ?_)
  replace hh := hh.nilO 0 (by kernel_rfl) hf_ h1_ h2_ h3_ (L' := [.o m1 (.cells 25 [.sl 3 (([] : List Col).map Col.enc) none, i64 0, .sl 2 [] (some t1)]), .t t1 (([] : List Group)).length 2]) (by kernel_rfl)
  refine fg [0, 2] ?_
  refine seg 1 [0, 2] [] [] (by kernel_rfl) (by kernel_rfl) ?_
  refine zn ?_
  refine AT_scope (fun _ _ _ _ => False) ?_ (fun _ _ _ _ h_ => h_.elim)
  · refine AT_seq ?_
    refine AT_region ?_
    refine seg 1 [2, 12] [(12, .sl 1 (a0.map eB) none)] [1, 2] (by kernel_rfl) (by kernel_rfl) ?_
    refine AOps_inline [.sl 1 (a0.map eB) none] (tl_get rfl) rfl rfl rfl (by kernel_rfl) Try.func19 (by decide) rfl rfl ?_
    refine AT_forget 0x1 (mkS 7 [(0, .sl 1 (a0.map eB) none)]) (by kernel_rfl) ?_
    refine zsr ?_
    refine seg 1 [0] [] [] (by kernel_rfl) (by kernel_rfl) ?_
    refine znsr ?_
    refine seg 1 [3] [(3, .sl 1 (a0.map eB) none)] [1, 2, 3, 4] (by kernel_rfl) (by kernel_rfl) ?_
    obtain ⟨v100, ht67, h⟩ := bs h
    refine AOps_callR _ [.sl 1 (a0.map eB) none] (tl_get rfl) rfl rfl rfl rfl Try.func29 (by decide) rfl ((.cons (D.le.refl _) (.nil))) (slices_Clone_byte.ok a0 _  _ ht67) ?_
    rintro _ S_ ⟨t50, rfl, h2_⟩
    replace hh := hh.calln h2_
    refine fg [4] ?_
    refine seg 1 [5] [(5, .ag [.sl 1 (v100.map eB) (some t50), bo false])] [3, 4] (by kernel_rfl) (by kernel_rfl) ?_
    refine AOps_boxV (ds := [.sl 1 (v100.map eB) (some t50), bo false]) (cs' := [.sl 1 (v100.map eB) none, bo false]) (tl_get rfl) rfl rfl (by kernel_rfl) (.cons (sl_le) (.cons (D.le.refl _) (.nil))) (fun S_ m14 hf_ u_ => ?_)
    replace hh := hh.obN hf_ u_
    refine fg [6] ?_
    refine seg 1 [2] [(2, .ob m14 0)] [] (by kernel_rfl) (by kernel_rfl) ?_
    refine zn ?_
    refine AT_ret ?_
    refine ⟨[.ob m14 0], .ob m14 0, S_, (.of (by kernel_rfl)), D.le.refl _, Store.le.refl _, ?_⟩
    refine fg [2, 13] ?_
    refine seg 1 [2, 4] [(4, .ob m14 0)] [] (by kernel_rfl) (by kernel_rfl) ?_
    refine znsr ?_
    refine seg 1 [2, 4, 14] [(14, .ob m14 0)] [1, 2, 3, 4, 5, 6] (by kernel_rfl) (by kernel_rfl) ?_
    obtain ⟨⟨v101, v102⟩, ht68, h⟩ := bs h
    simp only at h
    refine AOps_callR _ [.ob m14 0] (tl_get rfl) rfl rfl rfl rfl Try.func20 (by decide) rfl ((.cons (D.le.refl _) (.nil))) (schema_Get_s0.ok _ (⟨v100, false⟩ : Cursor) _ _ m14 ((hh.have_ [3] (by decide) (by kernel_rfl)).own) _ _ ht68) ?_
    rintro _ S_ ⟨t51, rfl, h2_⟩
    replace hh := hh.call [3] [0, 1, 2] (by decide) (by kernel_rfl) h2_ rfl
    refine fg [2, 4, 15] ?_
    refine seg 1 [2, 4, 15, 16] [(16, .ob m14 0)] [3, 4, 5, 6] (by kernel_rfl) (by kernel_rfl) ?_
    obtain ⟨⟨v103, v104⟩, ht69, h⟩ := bs h
    simp only at h
    refine AOps_callR _ [.ob m14 0, i64 65536] (tl_get rfl) rfl rfl rfl rfl Try.func21 (by decide) rfl ((.cons (D.le.refl _) (.cons (D.le.refl _) (.nil)))) (varint_Len_s0.ok _ v102 65536 _ _ m14 ((hh.have_ [0] (by decide) (by kernel_rfl)).own) _ _ ht69) ?_
    rintro _ S_ ⟨rfl, h2_⟩
    replace hh := hh.call [0] [1, 2, 3, 4] (by decide) (by kernel_rfl) h2_ rfl
    refine AOps_forget 0x28014 (mkS 81 [(2, .ob m1 0), (4, .ob m14 0), (15, .sl 3 (v101.map Col.enc) (some t51)), (17, i64 v103)]) (by kernel_rfl) ?_
    refine seg 1 [2, 4, 18] [(18, .ag [.sl 3 (v101.map Col.enc) (some t51), i64 v103, nilS])] [5, 6] (by kernel_rfl) (by kernel_rfl) ?_
    refine AOps_allocV (ds := [nilS, i64 0, nilS]) (cs' := [.sl 3 (([] : List Col).map Col.enc) none, i64 0, nilS]) (tl_get rfl) rfl rfl (by kernel_rfl) (.cons (nil_le) (.cons (D.le.refl _) (.cons (D.le.refl _) (.nil)))) (fun S_ m15 hf_ u_ => ?_)
    replace hh := hh.obN hf_ u_
    refine AOps_nilO (k := m15) (T := 25) (cs := [.sl 3 (([] : List Col).map Col.enc) none, i64 0, nilS]) 2 2 (hh.ob 5 (by kernel_rfl)) rfl (fun S_ t52 hf_ h1_ h2_ h3_ => ?_)
    replace hh := hh.nilO 5 (by kernel_rfl) hf_ h1_ h2_ h3_ (L' := [.o m14 (.cells 77 [.sl 1 (v104.left.map eB) none, bo v104.bad]), .t t51 (v101).length 3, .t t50 (v100).length 1, .o m1 (.cells 25 [.sl 3 (([] : List Col).map Col.enc) none, i64 0, .sl 2 [] (some t1)]), .t t1 (([] : List Group)).length 2, .o m15 (.cells 25 [.sl 3 (([] : List Col).map Col.enc) none, i64 0, .sl 2 [] (some t52)]), .t t52 (([] : List Group)).length 2]) (by kernel_rfl)
    refine fg [2, 4, 5, 18] ?_
    refine AOps_putV (T := 25) (off := 0) (cs := [.sl 3 (([] : List Col).map Col.enc) none, i64 0, .sl 2 [] (some t52)]) (ds := [.sl 3 (v101.map Col.enc) (some t51), i64 v103, nilS]) (cs' := [.sl 3 (v101.map Col.enc) none, i64 v103, nilS]) (tl_get rfl) rfl rfl rfl (hh.ob 5 (by kernel_rfl)) rfl (by kernel_rfl) (Nat.le_of_ble_eq_true rfl) (.cons (sl_le) (.cons (D.le.refl _) (.cons (D.le.refl _) (.nil)))) (fun S_ u_ => ?_)
    replace hh := hh.obS' 5 (by kernel_rfl) u_
    refine AOps_nilO (k := m15) (T := 25) (cs := [.sl 3 (v101.map Col.enc) none, i64 v103, nilS]) 2 2 (hh.ob 5 (by kernel_rfl)) rfl (fun S_ t53 hf_ h1_ h2_ h3_ => ?_)
    replace hh := hh.nilO 5 (by kernel_rfl) hf_ h1_ h2_ h3_ (L' := [.o m14 (.cells 77 [.sl 1 (v104.left.map eB) none, bo v104.bad]), .t t51 (v101).length 3, .t t50 (v100).length 1, .o m1 (.cells 25 [.sl 3 (([] : List Col).map Col.enc) none, i64 0, .sl 2 [] (some t1)]), .t t1 (([] : List Group)).length 2, .o m15 (.cells 25 [.sl 3 (v101.map Col.enc) none, i64 v103, .sl 2 [] (some t53)]), .t t52 (([] : List Group)).length 2, .t t53 (([] : List Group)).length 2]) (by kernel_rfl)
    refine fg0 [2, 4, 5] ?_
    refine znsr ?_
    refine seg 1 [2, 4, 5, 19] [(19, .ob m14 0)] [1, 2] (by kernel_rfl) (by kernel_rfl) ?_
    obtain ⟨⟨v105, v106⟩, ht70, h⟩ := bs h
    simp only at h
    refine AOps_callR _ [.ob m14 0, i64 65536] (tl_get rfl) rfl rfl rfl rfl Try.func21 (by decide) rfl ((.cons (D.le.refl _) (.cons (D.le.refl _) (.nil)))) (varint_Len_s0.ok _ v104 65536 _ _ m14 ((hh.have_ [0] (by decide) (by kernel_rfl)).own) _ _ ht70) ?_
    rintro _ S_ ⟨rfl, h2_⟩
    replace hh := hh.call [0] [1, 2, 3, 4, 5, 6, 7] (by decide) (by kernel_rfl) h2_ rfl
    refine fg [2, 4, 5, 20] ?_
    refine seg 1 [2, 4, 5, 6] [(6, i64 v105)] [] (by kernel_rfl) (by kernel_rfl) ?_
    refine zn ?_
    refine AT_seq ?_
    refine AT_label ?_
    refine athen_n ?_
    refine AT_seq ?_
    refine zsr ?_
    refine seg 2 [2, 4, 5, 21, 22] [(21, i64 v105), (22, i64 0)] [] (by kernel_rfl) (by kernel_rfl) ?_
    refine zn ?_
    refine AT_block ?_
    refine AT_loopM 0x600034 (fun k_ sl_ S_ => k_ ≤ k ∧ ∃ (x58 : Int), ∃ (x59 : (List UInt8)), ∃ (x60 : Bool), ∃ (x61 : (List Group)), ∃ (tk73 : Nat), ∃ (tk74 : Nat), LeL sl_ (mkS 81 [(2, .ob m1 0), (4, .ob m14 0), (5, .ob m15 0), (21, i64 v105), (22, i64 x58)]) ∧ footer_Decode.l0 k_ v101 v103 v105 x58 x59 x60 x61 = some (r0, r1) ∧ Own S [] S_ [.o m14 (.cells 77 [.sl 1 (x59.map eB) none, bo x60]), .o m1 (.cells 25 [.sl 3 (([] : List Col).map Col.enc) none, i64 0, .sl 2 [] (some tk73)]), .o m15 (.cells 25 [.sl 3 (v101.map Col.enc) none, i64 v103, .sl 2 (x61.map Group.enc) (some tk74)]), .t tk73 (([] : List Group)).length 2, .t tk74 (x61).length 2]) k ⟨Nat.le_refl _, 0, v106.left, v106.bad, ([] : List Group), t1, t53, (le_rf (by kernel_rfl)), h, (hh.sub [0, 3, 5, 4, 7] (by decide) (by kernel_rfl))⟩ ?_
    clear hh h
    rintro k' sl_ S_ ⟨hk_, x58, x59, x60, x61, tk73, tk74, hl_, h, hh⟩
    refine AT_weaken hl_ ?_
    obtain _ | k22 := k'
    · cases h
    rw [footer_Decode.l0] at h
    refine zsr ?_
    refine seg 1 [2, 4, 5, 21, 22, 23] [(23, bo (decide (x58 < v105)))] [] (by kernel_rfl) (by kernel_rfl) ?_
    refine zn ?_
    refine AT_seq ?_
    refine AT_condR (decide (x58 < v105)) (by kernel_rfl) (fun hc69 => ?_) (fun hc69 => ?_)
    · rw [if_f hc69] at h
      refine AT_exit ?_
      refine athen_e ?_
      refine athen_e ?_
      refine ablock_h ?_
      refine athen_n ?_
      refine AT_seq ?_
      refine zsr ?_
      refine seg 1 [2, 5, 71] [(71, .ob m14 0)] [1, 2, 3, 4, 5, 6, 7] (by kernel_rfl) (by kernel_rfl) ?_
      obtain ⟨v197, ht131, h⟩ := bs h
      refine AOps_callR _ [.ob m14 0] (tl_get rfl) rfl rfl rfl rfl Try.func24 (by decide) rfl ((.cons (D.le.refl _) (.nil))) (cursor_Cursor_End_s0.ok (⟨x59, x60⟩ : Cursor) _ _ m14 ((hh.have_ [0] (by decide) (by kernel_rfl)).own) _ ht131) ?_
      rintro _ S_ ⟨rfl, h2_⟩
      replace hh := hh.call [0] [1, 2, 3, 4] (by decide) (by kernel_rfl) h2_ rfl
      refine fg [2, 5, 72] ?_
      refine seg 2 [2, 5, 74] [(74, bo (!v197))] [4, 5, 6, 7] (by kernel_rfl) (by kernel_rfl) ?_
      refine cased 74 (!v197) (by kernel_rfl) (fun hc91 => ?_) (fun hc91 => ?_)
      · rw [if_t hc91] at h
        refine seg 4 [2, 5, 78] [(78, bo true)] [] (by kernel_rfl) (by kernel_rfl) ?_
        refine zn ?_
        refine AT_cond_t (by kernel_rfl) ?_
        refine zsr ?_
        refine seg 1 [2, 79] [(79, .ag [nilS, i64 0, nilS])] [1, 2] (by kernel_rfl) (by kernel_rfl) ?_
        refine AOps_putV (T := 25) (off := 0) (cs := [.sl 3 (([] : List Col).map Col.enc) none, i64 0, .sl 2 [] (some tk73)]) (ds := [nilS, i64 0, nilS]) (cs' := [.sl 3 (([] : List Col).map Col.enc) none, i64 0, nilS]) (tl_get rfl) rfl rfl rfl (hh.ob 1 (by kernel_rfl)) rfl (by kernel_rfl) (Nat.le_of_ble_eq_true rfl) (.cons (nil_le) (.cons (D.le.refl _) (.cons (D.le.refl _) (.nil)))) (fun S_ u_ => ?_)
        replace hh := hh.obS' 1 (by kernel_rfl) u_
        refine AOps_nilO (k := m1) (T := 25) (cs := [.sl 3 (([] : List Col).map Col.enc) none, i64 0, nilS]) 2 2 (hh.ob 1 (by kernel_rfl)) rfl (fun S_ t96 hf_ h1_ h2_ h3_ => ?_)
        replace hh := hh.nilO 1 (by kernel_rfl) hf_ h1_ h2_ h3_ (L' := [.o m14 (.cells 77 [.sl 1 (((⟨x59, x60⟩ : Cursor).left).map eB) none, bo ((⟨x59, x60⟩ : Cursor).bad)]), .o m1 (.cells 25 [.sl 3 (([] : List Col).map Col.enc) none, i64 0, .sl 2 [] (some t96)]), .o m15 (.cells 25 [.sl 3 (v101.map Col.enc) none, i64 v103, .sl 2 (x61.map Group.enc) (some tk74)]), .t tk73 (([] : List Group)).length 2, .t tk74 (x61).length 2, .t t96 (([] : List Group)).length 2]) (by kernel_rfl)
        refine fg0 [2] ?_
        refine seg 1 [2, 3] [(3, bo false)] [] (by kernel_rfl) (by kernel_rfl) ?_
        refine zn ?_
        refine AT_ret ?_
        refine athen_r ?_
        refine scope_r ?_
        have e0_ : (⟨([] : List Col), 0, ([] : List Group)⟩ : Footer) = r0 := congrArg (fun p_ => p_.1) (Option.some.inj h)
        have e1_ : false = r1 := congrArg (fun p_ => p_.2) (Option.some.inj h)
        subst e0_
        subst e1_
        exact ⟨[.ag [.sl 3 (([] : List Col).map Col.enc) none, i64 0, .sl 2 [] (some t96)], bo false], _, S_, (.ob (k := m1) (o := 0) (T := 25) (cs := [.sl 3 (([] : List Col).map Col.enc) none, i64 0, .sl 2 [] (some t96)]) (by kernel_rfl) (hh.ob 1 (by kernel_rfl)) (.inl ⟨by kernel_rfl, 3, by kernel_rfl, Nat.le_of_ble_eq_true rfl, by kernel_rfl⟩) (.tmp (.nil))), (tup_le (.cons ((ag_le (.cons (D.le.refl _) (.cons (D.le.refl _) (.cons (sl_le) (.nil)))))) (.cons (D.le.refl _) (.nil)))), Store.le.refl _, rfl, (hh.sub [] (by decide) (by kernel_rfl))⟩
      rw [if_f hc91] at h
      refine AOps_load (T := 25) (off := 0) (cs := [.sl 3 (v101.map Col.enc) none, i64 v103, .sl 2 (x61.map Group.enc) (some tk74)]) (.ag [.sl 3 (v101.map Col.enc) none, i64 v103, .sl 2 (x61.map Group.enc) (some tk74)]) (tl_get rfl) rfl rfl rfl (hh.ob 2 (by kernel_rfl)) (.inl ⟨by kernel_rfl, 3, by kernel_rfl, Nat.le_of_ble_eq_true rfl, by kernel_rfl⟩) ?_
      refine fg [2, 5, 74, 75] ?_
      refine AOps_weaken (le_eq (b := mkS 81 [(2, .ob m1 0), (5, .ob m15 0), (74, bo false), (75, .ag [.sl 3 (v101.map Col.enc) none, i64 v103, .sl 2 (x61.map Group.enc) (some tk74)])]) (by kernel_rfl) (mkS_le (.cons (D.le.refl _) (.cons (D.le.refl _) (.cons (D.le.refl _) (.cons ((ag_le (.cons (D.le.refl _) (.cons (D.le.refl _) (.cons (sl_le) (.nil)))))) .nil)))))) ?_
      obtain ⟨v198, ht132, h⟩ := bs h
      refine AOps_callR _ [.ag (Footer.enc (⟨v101, v103, x61⟩ : Footer))] (tl_get rfl) rfl rfl rfl rfl Try.func12 (by decide) rfl ((.cons (D.le.refl _) (.nil))) (footer_Right.ok _ (⟨v101, v103, x61⟩ : Footer) _  _ ht132) ?_
      rintro _ S_ ⟨rfl, h2_⟩
      replace hh := hh.call0 h2_
      refine fg [2, 5, 74, 76] ?_
      refine seg 2 [2, 5, 78] [(78, bo (!v198))] [] (by kernel_rfl) (by kernel_rfl) ?_
      refine zn ?_
      refine AT_condS (!v198) (by kernel_rfl) (fun hc92 => ?_) (fun hc92 => ?_)
      · rw [if_t hc92] at h
        refine zsr ?_
        refine seg 1 [2, 79] [(79, .ag [nilS, i64 0, nilS])] [1, 2] (by kernel_rfl) (by kernel_rfl) ?_
        refine AOps_putV (T := 25) (off := 0) (cs := [.sl 3 (([] : List Col).map Col.enc) none, i64 0, .sl 2 [] (some tk73)]) (ds := [nilS, i64 0, nilS]) (cs' := [.sl 3 (([] : List Col).map Col.enc) none, i64 0, nilS]) (tl_get rfl) rfl rfl rfl (hh.ob 1 (by kernel_rfl)) rfl (by kernel_rfl) (Nat.le_of_ble_eq_true rfl) (.cons (nil_le) (.cons (D.le.refl _) (.cons (D.le.refl _) (.nil)))) (fun S_ u_ => ?_)
        replace hh := hh.obS' 1 (by kernel_rfl) u_
        refine AOps_nilO (k := m1) (T := 25) (cs := [.sl 3 (([] : List Col).map Col.enc) none, i64 0, nilS]) 2 2 (hh.ob 1 (by kernel_rfl)) rfl (fun S_ t97 hf_ h1_ h2_ h3_ => ?_)
        replace hh := hh.nilO 1 (by kernel_rfl) hf_ h1_ h2_ h3_ (L' := [.o m14 (.cells 77 [.sl 1 (((⟨x59, x60⟩ : Cursor).left).map eB) none, bo ((⟨x59, x60⟩ : Cursor).bad)]), .o m1 (.cells 25 [.sl 3 (([] : List Col).map Col.enc) none, i64 0, .sl 2 [] (some t97)]), .o m15 (.cells 25 [.sl 3 (v101.map Col.enc) none, i64 v103, .sl 2 (x61.map Group.enc) (some tk74)]), .t tk73 (([] : List Group)).length 2, .t tk74 (x61).length 2, .t t97 (([] : List Group)).length 2]) (by kernel_rfl)
        refine fg0 [2] ?_
        refine seg 1 [2, 3] [(3, bo false)] [] (by kernel_rfl) (by kernel_rfl) ?_
        refine zn ?_
        refine AT_ret ?_
        refine athen_r ?_
        refine scope_r ?_
        have e0_ : (⟨([] : List Col), 0, ([] : List Group)⟩ : Footer) = r0 := congrArg (fun p_ => p_.1) (Option.some.inj h)
        have e1_ : false = r1 := congrArg (fun p_ => p_.2) (Option.some.inj h)
        subst e0_
        subst e1_
        exact ⟨[.ag [.sl 3 (([] : List Col).map Col.enc) none, i64 0, .sl 2 [] (some t97)], bo false], _, S_, (.ob (k := m1) (o := 0) (T := 25) (cs := [.sl 3 (([] : List Col).map Col.enc) none, i64 0, .sl 2 [] (some t97)]) (by kernel_rfl) (hh.ob 1 (by kernel_rfl)) (.inl ⟨by kernel_rfl, 3, by kernel_rfl, Nat.le_of_ble_eq_true rfl, by kernel_rfl⟩) (.tmp (.nil))), (tup_le (.cons ((ag_le (.cons (D.le.refl _) (.cons (D.le.refl _) (.cons (sl_le) (.nil)))))) (.cons (D.le.refl _) (.nil)))), Store.le.refl _, rfl, (hh.sub [] (by decide) (by kernel_rfl))⟩
      rw [if_f hc92] at h
      refine zkn ?_
      refine zsr ?_
      refine AOps_load (T := 25) (off := 0) (cs := [.sl 3 (v101.map Col.enc) none, i64 v103, .sl 2 (x61.map Group.enc) (some tk74)]) (.ag [.sl 3 (v101.map Col.enc) none, i64 v103, .sl 2 (x61.map Group.enc) (some tk74)]) (tl_get rfl) rfl rfl rfl (hh.ob 2 (by kernel_rfl)) (.inl ⟨by kernel_rfl, 3, by kernel_rfl, Nat.le_of_ble_eq_true rfl, by kernel_rfl⟩) ?_
      refine fg [2, 80] ?_
      refine AOps_weaken (le_eq (b := mkS 81 [(2, .ob m1 0), (80, .ag [.sl 3 (v101.map Col.enc) none, i64 v103, .sl 2 (x61.map Group.enc) (some tk74)])]) (by kernel_rfl) (mkS_le (.cons (D.le.refl _) (.cons ((ag_le (.cons (D.le.refl _) (.cons (D.le.refl _) (.cons (sl_le) (.nil)))))) .nil)))) ?_
      refine AOps_putV (T := 25) (off := 0) (cs := [.sl 3 (([] : List Col).map Col.enc) none, i64 0, .sl 2 [] (some tk73)]) (ds := [.sl 3 (v101.map Col.enc) none, i64 v103, .sl 2 (x61.map Group.enc) none]) (cs' := [.sl 3 (v101.map Col.enc) none, i64 v103, .sl 2 (x61.map Group.enc) none]) (tl_get rfl) rfl rfl rfl (hh.ob 1 (by kernel_rfl)) rfl (by kernel_rfl) (Nat.le_of_ble_eq_true rfl) (LeL.refl _) (fun S_ u_ => ?_)
      replace hh := hh.obS' 1 (by kernel_rfl) u_
      refine fg0 [2] ?_
      refine seg 1 [2, 3] [(3, bo true)] [] (by kernel_rfl) (by kernel_rfl) ?_
      refine zn ?_
      refine AT_ret ?_
      refine scope_r ?_
      have e0_ : (⟨v101, v103, x61⟩ : Footer) = r0 := congrArg (fun p_ => p_.1) (Option.some.inj h)
      have e1_ : true = r1 := congrArg (fun p_ => p_.2) (Option.some.inj h)
      subst e0_
      subst e1_
      exact ⟨[.ag [.sl 3 (v101.map Col.enc) none, i64 v103, .sl 2 (x61.map Group.enc) none], bo true], _, S_, (.ob (k := m1) (o := 0) (T := 25) (cs := [.sl 3 (v101.map Col.enc) none, i64 v103, .sl 2 (x61.map Group.enc) none]) (by kernel_rfl) (hh.ob 1 (by kernel_rfl)) (.inl ⟨by kernel_rfl, 3, by kernel_rfl, Nat.le_of_ble_eq_true rfl, by kernel_rfl⟩) (.tmp (.nil))), D.le.refl _, Store.le.refl _, rfl, (hh.sub [] (by decide) (by kernel_rfl))⟩
    rw [if_t hc69] at h
    refine zkn ?_
    refine AT_seq ?_
    refine AT_block ?_
    refine zsr ?_
    refine seg 1 [2, 4, 5, 21, 22, 24] [(24, .ob m14 0)] [1, 2, 3, 4] (by kernel_rfl) (by kernel_rfl) ?_
    obtain ⟨⟨v152, v153⟩, ht101, h⟩ := bs h
    simp only at h
    refine AOps_callR _ [.ob m14 0, i64 65536] (tl_get rfl) rfl rfl rfl rfl Try.func21 (by decide) rfl ((.cons (D.le.refl _) (.cons (D.le.refl _) (.nil)))) (varint_Len_s0.ok _ (⟨x59, x60⟩ : Cursor) 65536 _ _ m14 ((hh.have_ [0] (by decide) (by kernel_rfl)).own) _ _ ht101) ?_
    rintro _ S_ ⟨rfl, h2_⟩
    replace hh := hh.call [0] [1, 2, 3, 4] (by decide) (by kernel_rfl) h2_ rfl
    refine fg [2, 4, 5, 21, 22, 25] ?_
    refine seg 1 [2, 4, 5, 21, 22, 26] [(26, .ag [i64 v152, nilS])] [3, 4] (by kernel_rfl) (by kernel_rfl) ?_
    refine AOps_allocV (ds := [i64 0, nilS]) (cs' := [i64 0, nilS]) (tl_get rfl) rfl rfl (by kernel_rfl) (LeL.refl _) (fun S_ m21 hf_ u_ => ?_)
    replace hh := hh.obN hf_ u_
    refine AOps_nilO (k := m21) (T := 31) (cs := [i64 0, nilS]) 1 1 (hh.ob 5 (by kernel_rfl)) rfl (fun S_ t75 hf_ h1_ h2_ h3_ => ?_)
    replace hh := hh.nilO 5 (by kernel_rfl) hf_ h1_ h2_ h3_ (L' := [.o m14 (.cells 77 [.sl 1 (v153.left.map eB) none, bo v153.bad]), .o m1 (.cells 25 [.sl 3 (([] : List Col).map Col.enc) none, i64 0, .sl 2 [] (some tk73)]), .o m15 (.cells 25 [.sl 3 (v101.map Col.enc) none, i64 v103, .sl 2 (x61.map Group.enc) (some tk74)]), .t tk73 (([] : List Group)).length 2, .t tk74 (x61).length 2, .o m21 (.cells 31 [i64 0, .sl 1 [] (some t75)]), .t t75 (([] : List (List PageInfo))).length 1]) (by kernel_rfl)
    refine fg [2, 4, 5, 7, 21, 22, 26] ?_
    refine AOps_putV (T := 31) (off := 0) (cs := [i64 0, .sl 1 [] (some t75)]) (ds := [i64 v152, nilS]) (cs' := [i64 v152, nilS]) (tl_get rfl) rfl rfl rfl (hh.ob 5 (by kernel_rfl)) rfl (by kernel_rfl) (Nat.le_of_ble_eq_true rfl) (LeL.refl _) (fun S_ u_ => ?_)
    replace hh := hh.obS' 5 (by kernel_rfl) u_
    refine AOps_nilO (k := m21) (T := 31) (cs := [i64 v152, nilS]) 1 1 (hh.ob 5 (by kernel_rfl)) rfl (fun S_ t76 hf_ h1_ h2_ h3_ => ?_)
    replace hh := hh.nilO 5 (by kernel_rfl) hf_ h1_ h2_ h3_ (L' := [.o m14 (.cells 77 [.sl 1 (v153.left.map eB) none, bo v153.bad]), .o m1 (.cells 25 [.sl 3 (([] : List Col).map Col.enc) none, i64 0, .sl 2 [] (some tk73)]), .o m15 (.cells 25 [.sl 3 (v101.map Col.enc) none, i64 v103, .sl 2 (x61.map Group.enc) (some tk74)]), .t tk73 (([] : List Group)).length 2, .t tk74 (x61).length 2, .o m21 (.cells 31 [i64 v152, .sl 1 [] (some t76)]), .t t75 (([] : List (List PageInfo))).length 1, .t t76 (([] : List (List PageInfo))).length 1]) (by kernel_rfl)
    refine fg0 [2, 4, 5, 7, 21, 22] ?_
    refine zn ?_
    refine AT_seq ?_
    refine zsr ?_
    refine seg 1 [2, 4, 5, 7, 21, 22, 27] [(27, .ob m15 0)] [1, 2, 3] (by kernel_rfl) (by kernel_rfl) ?_
    refine AOps_load (T := 25) (off := 0) (cs := [.sl 3 (v101.map Col.enc) none, i64 v103, .sl 2 (x61.map Group.enc) (some tk74)]) (.sl 3 (v101.map Col.enc) none) (tl_get rfl) rfl rfl rfl (hh.ob 2 (by kernel_rfl)) (.inr ⟨by kernel_rfl, by kernel_rfl⟩) ?_
    refine fg [2, 4, 5, 7, 21, 22, 28] ?_
    refine AOps_seg 1 0x306000b4 (mkS 81 [(2, .ob m1 0), (4, .ob m14 0), (5, .ob m15 0), (7, .ob m21 0), (21, i64 v105), (22, i64 x58), (28, .sl 3 (v101.map Col.enc) none), (29, i64 ((v101.map Col.enc).length : Int))]) none [3] (by kernel_rfl) (by kernel_rfl) trivial ?_
    refine tod 29 (i64 ((v101.map Col.enc).length : Int)) (i64 (v101.length : Int)) (by kernel_rfl) (by rw [List.length_map]) ?_
    refine seg 1 [2, 4, 5, 7, 21, 22, 28, 29, 30] [(30, i64 0)] [] (by kernel_rfl) (by kernel_rfl) ?_
    refine zn ?_
    refine AT_block ?_
    refine AT_loopM 0x706000b4 (fun k_ sl_ S_ => k_ ≤ k22 ∧ ∃ (x69 : Int), ∃ (x70 : (List UInt8)), ∃ (x71 : Bool), ∃ (x72 : (List (List PageInfo))), ∃ (tk86 : Nat), ∃ (tk87 : Nat), ∃ (tk88 : Nat), LeL sl_ (mkS 81 [(2, .ob m1 0), (4, .ob m14 0), (5, .ob m15 0), (7, .ob m21 0), (21, i64 v105), (22, i64 x58), (28, .sl 3 (v101.map Col.enc) none), (29, i64 (v101.length : Int)), (30, i64 x69)]) ∧ footer_Decode.l1 k_ v101 v103 v105 x58 x61 v152 x69 x70 x71 x72 = some (r0, r1) ∧ Own S [] S_ [.o m14 (.cells 77 [.sl 1 (x70.map eB) none, bo x71]), .o m1 (.cells 25 [.sl 3 (([] : List Col).map Col.enc) none, i64 0, .sl 2 [] (some tk86)]), .o m15 (.cells 25 [.sl 3 (v101.map Col.enc) none, i64 v103, .sl 2 (x61.map Group.enc) (some tk87)]), .o m21 (.cells 31 [i64 v152, .sl 1 (x72.map (eL 14 PageInfo.enc)) (some tk88)]), .t tk86 (([] : List Group)).length 2, .t tk87 (x61).length 2, .t tk88 (x72).length 1]) k22 ⟨Nat.le_refl _, 0, v153.left, v153.bad, ([] : List (List PageInfo)), tk73, tk74, t76, (le_rf (by kernel_rfl)), h, (hh.sub [0, 1, 2, 5, 3, 4, 7] (by decide) (by kernel_rfl))⟩ ?_
    clear hh h
    rintro k' sl_ S_ ⟨hk_, x69, x70, x71, x72, tk86, tk87, tk88, hl_, h, hh⟩
    refine AT_weaken hl_ ?_
    obtain _ | k26 := k'
    · cases h
    rw [footer_Decode.l1] at h
    refine zsr ?_
    refine seg 1 [2, 4, 5, 7, 21, 22, 28, 29, 30, 31] [(31, bo (decide (x69 < (v101.length : Int))))] [] (by kernel_rfl) (by kernel_rfl) ?_
    refine zn ?_
    refine AT_seq ?_
    refine AT_condR (decide (x69 < (v101.length : Int))) (by kernel_rfl) (fun hc79 => ?_) (fun hc79 => ?_)
    · rw [if_f hc79] at h
      refine AT_exit ?_
      refine athen_e ?_
      refine athen_e ?_
      refine ablock_h ?_
      refine athen_n ?_
      refine zsr ?_
      refine seg 1 [2, 4, 5, 7, 21, 22, 62] [(62, .ob m15 2)] [1, 2, 3, 4, 5, 6] (by kernel_rfl) (by kernel_rfl) ?_
      refine AOps_load (T := 25) (off := 2) (cs := [.sl 3 (v101.map Col.enc) none, i64 v103, .sl 2 (x61.map Group.enc) (some tk87)]) (.sl 2 (x61.map Group.enc) (some tk87)) (tl_get rfl) rfl rfl rfl (hh.ob 2 (by kernel_rfl)) (.inr ⟨by kernel_rfl, by kernel_rfl⟩) ?_
      refine fg [2, 4, 5, 7, 21, 22, 63] ?_
      refine AOps_load (T := 31) (off := 0) (cs := [i64 v152, .sl 1 (x72.map (eL 14 PageInfo.enc)) (some tk88)]) (.ag [i64 v152, .sl 1 (x72.map (eL 14 PageInfo.enc)) (some tk88)]) (tl_get rfl) rfl rfl rfl (hh.ob 3 (by kernel_rfl)) (.inl ⟨by kernel_rfl, 2, by kernel_rfl, Nat.le_of_ble_eq_true rfl, by kernel_rfl⟩) ?_
      refine fg [2, 4, 5, 21, 22, 63, 64] ?_
      refine AOps_weaken (le_eq (b := mkS 81 [(2, .ob m1 0), (4, .ob m14 0), (5, .ob m15 0), (21, i64 v105), (22, i64 x58), (63, .sl 2 (x61.map Group.enc) (some tk87)), (64, .ag [i64 v152, .sl 1 (x72.map (eL 14 PageInfo.enc)) (some tk88)])]) (by kernel_rfl) (mkS_le (.cons (D.le.refl _) (.cons (D.le.refl _) (.cons (D.le.refl _) (.cons (D.le.refl _) (.cons (D.le.refl _) (.cons (D.le.refl _) (.cons ((ag_le (.cons (D.le.refl _) (.cons (sl_le) (.nil))))) .nil))))))))) ?_
      refine AOps_litU (sz := 2) (es := [[i64 v152, .sl 1 (x72.map (eL 14 PageInfo.enc)) none]]) (tl_get rfl) rfl rfl rfl (by kernel_rfl) (by decide) (by kernel_rfl) (by decide) (by kernel_rfl) (by kernel_rfl) (by intro x hx; simp only [List.mem_cons, List.not_mem_nil, or_false] at hx; rcases hx with rfl <;> rfl) (fun S_ t93 hf_ u_ => ?_)
      replace hh := hh.tkN' hf_ u_ (n := (([(⟨v152, x72⟩ : Group)] : List Group)).length) (by first | rfl | (simp [bytesD_len]; done) | (simp [bytesD_len]; omega))
      refine fg [2, 4, 5, 21, 22, 63, 65] ?_
      obtain ⟨hl28, h⟩ := is h
      refine AOps_appendU (bytes := 32) (es := x61.map Group.enc) (xs := [[i64 v152, .sl 1 (x72.map (eL 14 PageInfo.enc)) none]]) (tl := (some t93)) (x61).length (tl_get rfl) rfl rfl rfl (by kernel_rfl) rfl (hh.tk 5 (by kernel_rfl)) (by simp only [List.length_map, List.length_cons, List.length_nil]) (.inl ⟨31, by kernel_rfl, rfl⟩) (by simp only [List.length_map, bytesD_len, List.length_cons, List.length_nil]; omega) (by simp only [List.length_map, bytesD_len, List.length_cons, List.length_nil]; omega) (fun S_ u_ => ?_)
      replace hh := hh.tkS' 5 (by kernel_rfl) u_ (n := (x61 ++ ([(⟨v152, x72⟩ : Group)] : List Group)).length) (by first | rfl | (simp [bytesD_len]; done) | (simp [bytesD_len]; omega))
      refine fg [2, 4, 5, 21, 22, 66] ?_
      refine tod 66 (.sl 2 ((x61.map Group.enc) ++ [[i64 v152, .sl 1 (x72.map (eL 14 PageInfo.enc)) none]]) (some tk87)) (.sl 2 ((x61 ++ ([(⟨v152, x72⟩ : Group)] : List Group)).map Group.enc) (some tk87)) (by kernel_rfl) (by first | rw [List.map_append]; done | (simp only [List.map_append]; done) | (simp only [List.map_append]; rfl) | (rw [List.map_append]; rfl)) ?_
      refine seg 1 [2, 4, 5, 21, 22, 66, 67] [(67, .ob m15 2)] [6] (by kernel_rfl) (by kernel_rfl) ?_
      refine AOps_putV (T := 25) (off := 2) (cs := [.sl 3 (v101.map Col.enc) none, i64 v103, .sl 2 (x61.map Group.enc) (some tk87)]) (ds := [.sl 2 ((x61 ++ ([(⟨v152, x72⟩ : Group)] : List Group)).map Group.enc) (some tk87)]) (cs' := [.sl 3 (v101.map Col.enc) none, i64 v103, .sl 2 ((x61 ++ ([(⟨v152, x72⟩ : Group)] : List Group)).map Group.enc) (some tk87)]) (tl_get rfl) rfl rfl rfl (hh.ob 2 (by kernel_rfl)) rfl (by kernel_rfl) (Nat.le_of_ble_eq_true rfl) (LeL.refl _) (fun S_ u_ => ?_)
      replace hh := hh.obS' 2 (by kernel_rfl) u_
      refine fg0 [2, 4, 5, 21, 22] ?_
      refine znsr ?_
      refine seg 1 [2, 4, 5, 21, 22, 68] [(68, .ob m14 0)] [1] (by kernel_rfl) (by kernel_rfl) ?_
      obtain ⟨v194, ht128, h⟩ := bs h
      refine AOps_callR _ [.ob m14 0] (tl_get rfl) rfl rfl rfl rfl Try.func23 (by decide) rfl ((.cons (D.le.refl _) (.nil))) (cursor_Cursor_Bad_s0.ok (⟨x70, x71⟩ : Cursor) _ _ m14 ((hh.have_ [0] (by decide) (by kernel_rfl)).own) _ ht128) ?_
      rintro _ S_ ⟨rfl, h2_⟩
      replace hh := hh.call [0] [1, 2, 3, 4, 5, 6, 7] (by decide) (by kernel_rfl) h2_ rfl
      refine fg [2, 4, 5, 21, 22, 69] ?_
      refine zn ?_
      refine AT_condR v194 (by kernel_rfl) (fun hc88 => ?_) (fun hc88 => ?_)
      · rw [if_f hc88] at h
        refine AT_skip ?_
        refine ablock_n ?_
        refine athen_n ?_
        refine AT_region ?_
        refine seg 2 [2, 4, 5, 21, 22] [(22, i64 (IntKind.wrap .i64 (x58 + 1)))] [] (by kernel_rfl) (by kernel_rfl) ?_
        refine zn ?_
        exact ⟨k26, (by omega), (by omega), IntKind.wrap .i64 (x58 + 1), (⟨x70, x71⟩ : Cursor).left, (⟨x70, x71⟩ : Cursor).bad, x61 ++ ([(⟨v152, x72⟩ : Group)] : List Group), tk86, tk87, (le_rf (by kernel_rfl)), h, (hh.sub [0, 1, 2, 4, 5] (by decide) (by kernel_rfl))⟩
      rw [if_t hc88] at h
      refine AT_exit ?_
      refine ablock_o (by decide) ?_
      refine athen_e ?_
      refine athen_e ?_
      refine ablock_h ?_
      refine athen_n ?_
      refine AT_seq ?_
      refine zsr ?_
      refine seg 1 [2, 5, 71] [(71, .ob m14 0)] [1, 2, 3, 4, 5, 6, 7] (by kernel_rfl) (by kernel_rfl) ?_
      obtain ⟨v195, ht129, h⟩ := bs h
      refine AOps_callR _ [.ob m14 0] (tl_get rfl) rfl rfl rfl rfl Try.func24 (by decide) rfl ((.cons (D.le.refl _) (.nil))) (cursor_Cursor_End_s0.ok (⟨x70, x71⟩ : Cursor) _ _ m14 ((hh.have_ [0] (by decide) (by kernel_rfl)).own) _ ht129) ?_
      rintro _ S_ ⟨rfl, h2_⟩
      replace hh := hh.call [0] [1, 2, 3, 4, 5, 6, 7] (by decide) (by kernel_rfl) h2_ rfl
      refine fg [2, 5, 72] ?_
      refine AOps_seg 2 0x4000000000000000024 (mkS 81 [(2, .ob m1 0), (5, .ob m15 0), (74, bo (!v195))]) none [4, 5, 6, 7] (by kernel_rfl) (by kernel_rfl) trivial ?_
      refine cased 74 (!v195) (by kernel_rfl) (fun hc89 => ?_) (fun hc89 => ?_)
      · rw [if_t hc89] at h
        refine seg 4 [2, 5, 78] [(78, bo true)] [] (by kernel_rfl) (by kernel_rfl) ?_
        refine zn ?_
        refine AT_cond_t (by kernel_rfl) ?_
        refine zsr ?_
        refine seg 1 [2, 79] [(79, .ag [nilS, i64 0, nilS])] [1, 2] (by kernel_rfl) (by kernel_rfl) ?_
        refine AOps_putV (T := 25) (off := 0) (cs := [.sl 3 (([] : List Col).map Col.enc) none, i64 0, .sl 2 [] (some tk86)]) (ds := [nilS, i64 0, nilS]) (cs' := [.sl 3 (([] : List Col).map Col.enc) none, i64 0, nilS]) (tl_get rfl) rfl rfl rfl (hh.ob 1 (by kernel_rfl)) rfl (by kernel_rfl) (Nat.le_of_ble_eq_true rfl) (.cons (nil_le) (.cons (D.le.refl _) (.cons (D.le.refl _) (.nil)))) (fun S_ u_ => ?_)
        replace hh := hh.obS' 1 (by kernel_rfl) u_
        refine AOps_nilO (k := m1) (T := 25) (cs := [.sl 3 (([] : List Col).map Col.enc) none, i64 0, nilS]) 2 2 (hh.ob 1 (by kernel_rfl)) rfl (fun S_ t94 hf_ h1_ h2_ h3_ => ?_)
        replace hh := hh.nilO 1 (by kernel_rfl) hf_ h1_ h2_ h3_ (L' := [.o m14 (.cells 77 [.sl 1 (((⟨x70, x71⟩ : Cursor).left).map eB) none, bo ((⟨x70, x71⟩ : Cursor).bad)]), .o m1 (.cells 25 [.sl 3 (([] : List Col).map Col.enc) none, i64 0, .sl 2 [] (some t94)]), .o m15 (.cells 25 [.sl 3 (v101.map Col.enc) none, i64 v103, .sl 2 ((x61 ++ ([(⟨v152, x72⟩ : Group)] : List Group)).map Group.enc) (some tk87)]), .o m21 (.cells 31 [i64 v152, .sl 1 (x72.map (eL 14 PageInfo.enc)) (some tk88)]), .t tk86 (([] : List Group)).length 2, .t tk87 (x61 ++ ([(⟨v152, x72⟩ : Group)] : List Group)).length 2, .t tk88 (x72).length 1, .t t93 (([(⟨v152, x72⟩ : Group)] : List Group)).length 2, .t t94 (([] : List Group)).length 2]) (by kernel_rfl)
        refine fg0 [2] ?_
        refine seg 1 [2, 3] [(3, bo false)] [] (by kernel_rfl) (by kernel_rfl) ?_
        refine zn ?_
        refine AT_ret ?_
        refine athen_r ?_
        refine scope_r ?_
        have e0_ : (⟨([] : List Col), 0, ([] : List Group)⟩ : Footer) = r0 := congrArg (fun p_ => p_.1) (Option.some.inj h)
        have e1_ : false = r1 := congrArg (fun p_ => p_.2) (Option.some.inj h)
        subst e0_
        subst e1_
        exact ⟨[.ag [.sl 3 (([] : List Col).map Col.enc) none, i64 0, .sl 2 [] (some t94)], bo false], _, S_, (.ob (k := m1) (o := 0) (T := 25) (cs := [.sl 3 (([] : List Col).map Col.enc) none, i64 0, .sl 2 [] (some t94)]) (by kernel_rfl) (hh.ob 1 (by kernel_rfl)) (.inl ⟨by kernel_rfl, 3, by kernel_rfl, Nat.le_of_ble_eq_true rfl, by kernel_rfl⟩) (.tmp (.nil))), (tup_le (.cons ((ag_le (.cons (D.le.refl _) (.cons (D.le.refl _) (.cons (sl_le) (.nil)))))) (.cons (D.le.refl _) (.nil)))), Store.le.refl _, rfl, (hh.sub [] (by decide) (by kernel_rfl))⟩
      rw [if_f hc89] at h
      refine AOps_load (T := 25) (off := 0) (cs := [.sl 3 (v101.map Col.enc) none, i64 v103, .sl 2 ((x61 ++ ([(⟨v152, x72⟩ : Group)] : List Group)).map Group.enc) (some tk87)]) (.ag [.sl 3 (v101.map Col.enc) none, i64 v103, .sl 2 ((x61 ++ ([(⟨v152, x72⟩ : Group)] : List Group)).map Group.enc) (some tk87)]) (tl_get rfl) rfl rfl rfl (hh.ob 2 (by kernel_rfl)) (.inl ⟨by kernel_rfl, 3, by kernel_rfl, Nat.le_of_ble_eq_true rfl, by kernel_rfl⟩) ?_
      refine fg [2, 5, 74, 75] ?_
      refine AOps_weaken (le_eq (b := mkS 81 [(2, .ob m1 0), (5, .ob m15 0), (74, bo false), (75, .ag [.sl 3 (v101.map Col.enc) none, i64 v103, .sl 2 ((x61 ++ ([(⟨v152, x72⟩ : Group)] : List Group)).map Group.enc) (some tk87)])]) (by kernel_rfl) (mkS_le (.cons (D.le.refl _) (.cons (D.le.refl _) (.cons (D.le.refl _) (.cons ((ag_le (.cons (D.le.refl _) (.cons (D.le.refl _) (.cons (sl_le) (.nil)))))) .nil)))))) ?_
      obtain ⟨v196, ht130, h⟩ := bs h
      refine AOps_callR _ [.ag (Footer.enc (⟨v101, v103, x61 ++ ([(⟨v152, x72⟩ : Group)] : List Group)⟩ : Footer))] (tl_get rfl) rfl rfl rfl rfl Try.func12 (by decide) rfl ((.cons (D.le.refl _) (.nil))) (footer_Right.ok _ (⟨v101, v103, x61 ++ ([(⟨v152, x72⟩ : Group)] : List Group)⟩ : Footer) _  _ ht130) ?_
      rintro _ S_ ⟨rfl, h2_⟩
      replace hh := hh.call0 h2_
      refine fg [2, 5, 74, 76] ?_
      refine seg 2 [2, 5, 78] [(78, bo (!v196))] [] (by kernel_rfl) (by kernel_rfl) ?_
      refine zn ?_
      refine AT_condS (!v196) (by kernel_rfl) (fun hc90 => ?_) (fun hc90 => ?_)
      · rw [if_t hc90] at h
        refine zsr ?_
        refine seg 1 [2, 79] [(79, .ag [nilS, i64 0, nilS])] [1, 2] (by kernel_rfl) (by kernel_rfl) ?_
        refine AOps_putV (T := 25) (off := 0) (cs := [.sl 3 (([] : List Col).map Col.enc) none, i64 0, .sl 2 [] (some tk86)]) (ds := [nilS, i64 0, nilS]) (cs' := [.sl 3 (([] : List Col).map Col.enc) none, i64 0, nilS]) (tl_get rfl) rfl rfl rfl (hh.ob 1 (by kernel_rfl)) rfl (by kernel_rfl) (Nat.le_of_ble_eq_true rfl) (.cons (nil_le) (.cons (D.le.refl _) (.cons (D.le.refl _) (.nil)))) (fun S_ u_ => ?_)
        replace hh := hh.obS' 1 (by kernel_rfl) u_
        refine AOps_nilO (k := m1) (T := 25) (cs := [.sl 3 (([] : List Col).map Col.enc) none, i64 0, nilS]) 2 2 (hh.ob 1 (by kernel_rfl)) rfl (fun S_ t95 hf_ h1_ h2_ h3_ => ?_)
        replace hh := hh.nilO 1 (by kernel_rfl) hf_ h1_ h2_ h3_ (L' := [.o m14 (.cells 77 [.sl 1 (((⟨x70, x71⟩ : Cursor).left).map eB) none, bo ((⟨x70, x71⟩ : Cursor).bad)]), .o m1 (.cells 25 [.sl 3 (([] : List Col).map Col.enc) none, i64 0, .sl 2 [] (some t95)]), .o m15 (.cells 25 [.sl 3 (v101.map Col.enc) none, i64 v103, .sl 2 ((x61 ++ ([(⟨v152, x72⟩ : Group)] : List Group)).map Group.enc) (some tk87)]), .o m21 (.cells 31 [i64 v152, .sl 1 (x72.map (eL 14 PageInfo.enc)) (some tk88)]), .t tk86 (([] : List Group)).length 2, .t tk87 (x61 ++ ([(⟨v152, x72⟩ : Group)] : List Group)).length 2, .t tk88 (x72).length 1, .t t93 (([(⟨v152, x72⟩ : Group)] : List Group)).length 2, .t t95 (([] : List Group)).length 2]) (by kernel_rfl)
        refine fg0 [2] ?_
        refine seg 1 [2, 3] [(3, bo false)] [] (by kernel_rfl) (by kernel_rfl) ?_
        refine zn ?_
        refine AT_ret ?_
        refine athen_r ?_
        refine scope_r ?_
        have e0_ : (⟨([] : List Col), 0, ([] : List Group)⟩ : Footer) = r0 := congrArg (fun p_ => p_.1) (Option.some.inj h)
        have e1_ : false = r1 := congrArg (fun p_ => p_.2) (Option.some.inj h)
        subst e0_
        subst e1_
        exact ⟨[.ag [.sl 3 (([] : List Col).map Col.enc) none, i64 0, .sl 2 [] (some t95)], bo false], _, S_, (.ob (k := m1) (o := 0) (T := 25) (cs := [.sl 3 (([] : List Col).map Col.enc) none, i64 0, .sl 2 [] (some t95)]) (by kernel_rfl) (hh.ob 1 (by kernel_rfl)) (.inl ⟨by kernel_rfl, 3, by kernel_rfl, Nat.le_of_ble_eq_true rfl, by kernel_rfl⟩) (.tmp (.nil))), (tup_le (.cons ((ag_le (.cons (D.le.refl _) (.cons (D.le.refl _) (.cons (sl_le) (.nil)))))) (.cons (D.le.refl _) (.nil)))), Store.le.refl _, rfl, (hh.sub [] (by decide) (by kernel_rfl))⟩
      rw [if_f hc90] at h
      refine zkn ?_
      refine zsr ?_
      refine AOps_load (T := 25) (off := 0) (cs := [.sl 3 (v101.map Col.enc) none, i64 v103, .sl 2 ((x61 ++ ([(⟨v152, x72⟩ : Group)] : List Group)).map Group.enc) (some tk87)]) (.ag [.sl 3 (v101.map Col.enc) none, i64 v103, .sl 2 ((x61 ++ ([(⟨v152, x72⟩ : Group)] : List Group)).map Group.enc) (some tk87)]) (tl_get rfl) rfl rfl rfl (hh.ob 2 (by kernel_rfl)) (.inl ⟨by kernel_rfl, 3, by kernel_rfl, Nat.le_of_ble_eq_true rfl, by kernel_rfl⟩) ?_
      refine fg [2, 80] ?_
      refine AOps_weaken (le_eq (b := mkS 81 [(2, .ob m1 0), (80, .ag [.sl 3 (v101.map Col.enc) none, i64 v103, .sl 2 ((x61 ++ ([(⟨v152, x72⟩ : Group)] : List Group)).map Group.enc) (some tk87)])]) (by kernel_rfl) (mkS_le (.cons (D.le.refl _) (.cons ((ag_le (.cons (D.le.refl _) (.cons (D.le.refl _) (.cons (sl_le) (.nil)))))) .nil)))) ?_
      refine AOps_putV (T := 25) (off := 0) (cs := [.sl 3 (([] : List Col).map Col.enc) none, i64 0, .sl 2 [] (some tk86)]) (ds := [.sl 3 (v101.map Col.enc) none, i64 v103, .sl 2 ((x61 ++ ([(⟨v152, x72⟩ : Group)] : List Group)).map Group.enc) none]) (cs' := [.sl 3 (v101.map Col.enc) none, i64 v103, .sl 2 ((x61 ++ ([(⟨v152, x72⟩ : Group)] : List Group)).map Group.enc) none]) (tl_get rfl) rfl rfl rfl (hh.ob 1 (by kernel_rfl)) rfl (by kernel_rfl) (Nat.le_of_ble_eq_true rfl) (LeL.refl _) (fun S_ u_ => ?_)
      replace hh := hh.obS' 1 (by kernel_rfl) u_
      refine fg0 [2] ?_
      refine seg 1 [2, 3] [(3, bo true)] [] (by kernel_rfl) (by kernel_rfl) ?_
      refine zn ?_
      refine AT_ret ?_
      refine scope_r ?_
      have e0_ : (⟨v101, v103, x61 ++ ([(⟨v152, x72⟩ : Group)] : List Group)⟩ : Footer) = r0 := congrArg (fun p_ => p_.1) (Option.some.inj h)
      have e1_ : true = r1 := congrArg (fun p_ => p_.2) (Option.some.inj h)
      subst e0_
      subst e1_
      exact ⟨[.ag [.sl 3 (v101.map Col.enc) none, i64 v103, .sl 2 ((x61 ++ ([(⟨v152, x72⟩ : Group)] : List Group)).map Group.enc) none], bo true], _, S_, (.ob (k := m1) (o := 0) (T := 25) (cs := [.sl 3 (v101.map Col.enc) none, i64 v103, .sl 2 ((x61 ++ ([(⟨v152, x72⟩ : Group)] : List Group)).map Group.enc) none]) (by kernel_rfl) (hh.ob 1 (by kernel_rfl)) (.inl ⟨by kernel_rfl, 3, by kernel_rfl, Nat.le_of_ble_eq_true rfl, by kernel_rfl⟩) (.tmp (.nil))), D.le.refl _, Store.le.refl _, rfl, (hh.sub [] (by decide) (by kernel_rfl))⟩
    rw [if_t hc79] at h
    refine zkn ?_
    refine AT_seq ?_
    refine AT_block ?_
    refine zsr ?_
    obtain ⟨hi12, h⟩ := is h
    refine segc 1 [2, 4, 5, 7, 21, 22, 28, 29, 30, 32] [(32, .pt ((v101.map Col.enc).getD (x69 : Int).toNat []))] (0 ≤ x69 ∧ x69 < ((v101.map Col.enc).length : Int)) [1, 2, 3] (by kernel_rfl) (by kernel_rfl) (idx_ok hi12) ?_
    refine tod 32 (.pt ((v101.map Col.enc).getD (x69 : Int).toNat [])) (.pt (Col.enc (rd v101 x69 Col.zero))) (by kernel_rfl) (by rw [pt_rd Col.enc v101 x69 Col.zero hi12.1 hi12.2]) ?_
    refine seg 1 [2, 4, 5, 7, 21, 22, 28, 29, 30, 33] [(33, .ag (Col.enc (rd v101 x69 Col.zero)))] [2, 3] (by kernel_rfl) (by kernel_rfl) ?_
    refine AOps_newvar (zs := [str [], i64 0, bo false]) (ds := (Col.enc (rd v101 x69 Col.zero))) (d := 9) (tl_get rfl) rfl rfl rfl (by kernel_rfl) (by kernel_rfl) (tl_get rfl) (fun _ => rfl) rfl rfl (fun _ => rfl) rfl (by kernel_rfl) (by kernel_rfl) ?_
    refine AOps_forget 0x706002b4 (mkS 81 [(2, .ob m1 0), (4, .ob m14 0), (5, .ob m15 0), (7, .ob m21 0), (9, .pt (Col.enc (rd v101 x69 Col.zero))), (21, i64 v105), (22, i64 x58), (28, .sl 3 (v101.map Col.enc) none), (29, i64 (v101.length : Int)), (30, i64 x69)]) (by kernel_rfl) ?_
    refine znsr ?_
    refine seg 1 [2, 4, 5, 7, 9, 10, 21, 22, 28, 29, 30] [(10, nilS)] [] (by kernel_rfl) (by kernel_rfl) ?_
    refine zn ?_
    refine AT_seq ?_
    refine zsr ?_
    refine seg 1 [2, 4, 5, 7, 9, 10, 21, 22, 28, 29, 30, 34] [(34, .ob m14 0)] [1, 2] (by kernel_rfl) (by kernel_rfl) ?_
    obtain ⟨⟨v174, v175⟩, ht115, h⟩ := bs h
    simp only at h
    refine AOps_callR _ [.ob m14 0, i64 65536] (tl_get rfl) rfl rfl rfl rfl Try.func21 (by decide) rfl ((.cons (D.le.refl _) (.cons (D.le.refl _) (.nil)))) (varint_Len_s0.ok _ (⟨x70, x71⟩ : Cursor) 65536 _ _ m14 ((hh.have_ [0] (by decide) (by kernel_rfl)).own) _ _ ht115) ?_
    rintro _ S_ ⟨rfl, h2_⟩
    replace hh := hh.call [0] [1, 2, 3, 4, 5, 6] (by decide) (by kernel_rfl) h2_ rfl
    refine fg [2, 4, 5, 7, 9, 10, 21, 22, 28, 29, 30, 35] ?_
    refine seg 1 [2, 4, 5, 7, 9, 10, 21, 22, 28, 29, 30, 35, 36] [(36, i64 0)] [] (by kernel_rfl) (by kernel_rfl) ?_
    refine zn ?_
    refine AT_block ?_
    refine AT_nilU 10 14 (fun tk_ => mkS 81 [(2, .ob m1 0), (4, .ob m14 0), (5, .ob m15 0), (7, .ob m21 0), (9, .pt (Col.enc (rd v101 x69 Col.zero))), (10, .sl 14 [] (some tk_)), (21, i64 v105), (22, i64 x58), (28, .sl 3 (v101.map Col.enc) none), (29, i64 (v101.length : Int)), (30, i64 x69), (35, i64 v174), (36, i64 0)]) (by kernel_rfl) (fun tk_ => by kernel_rfl) (fun S_ t85 hf_ u_ => ?_)
    replace hh := hh.tkN' hf_ u_ (n := (([] : List PageInfo)).length) (by first | rfl | (simp [bytesD_len]; done) | (simp [bytesD_len]; omega))
    refine AT_loopM 0x18706006b4 (fun k_ sl_ S_ => k_ ≤ k26 ∧ ∃ (x75 : (List PageInfo)), ∃ (x76 : Int), ∃ (x77 : (List UInt8)), ∃ (x78 : Bool), ∃ (tk93 : Nat), ∃ (tk94 : Nat), ∃ (tk95 : Nat), ∃ (tk96 : Nat), LeL sl_ (mkS 81 [(2, .ob m1 0), (4, .ob m14 0), (5, .ob m15 0), (7, .ob m21 0), (9, .pt (Col.enc (rd v101 x69 Col.zero))), (10, .sl 14 (x75.map PageInfo.enc) (some tk93)), (21, i64 v105), (22, i64 x58), (28, .sl 3 (v101.map Col.enc) none), (29, i64 (v101.length : Int)), (30, i64 x69), (35, i64 v174), (36, i64 x76)]) ∧ footer_Decode.l2 k_ v101 v103 v105 x58 x61 v152 x69 x72 v174 x75 x76 x77 x78 = some (r0, r1) ∧ Own S [] S_ [.o m14 (.cells 77 [.sl 1 (x77.map eB) none, bo x78]), .o m1 (.cells 25 [.sl 3 (([] : List Col).map Col.enc) none, i64 0, .sl 2 [] (some tk94)]), .o m15 (.cells 25 [.sl 3 (v101.map Col.enc) none, i64 v103, .sl 2 (x61.map Group.enc) (some tk95)]), .o m21 (.cells 31 [i64 v152, .sl 1 (x72.map (eL 14 PageInfo.enc)) (some tk96)]), .t tk93 (x75).length 14, .t tk94 (([] : List Group)).length 2, .t tk95 (x61).length 2, .t tk96 (x72).length 1]) k26 ⟨Nat.le_refl _, ([] : List PageInfo), 0, v175.left, v175.bad, t85, tk86, tk87, tk88, (le_rf (by kernel_rfl)), h, (hh.sub [0, 1, 2, 3, 7, 4, 5, 6] (by decide) (by kernel_rfl))⟩ ?_
    clear hh h
    rintro k' sl_ S_ ⟨hk_, x75, x76, x77, x78, tk93, tk94, tk95, tk96, hl_, h, hh⟩
    refine AT_weaken hl_ ?_
    obtain _ | k28 := k'
    · cases h
    rw [footer_Decode.l2] at h
    refine zsr ?_
    refine seg 1 [2, 4, 5, 7, 9, 10, 21, 22, 28, 29, 30, 35, 36, 37] [(37, bo (decide (x76 < v174)))] [] (by kernel_rfl) (by kernel_rfl) ?_
    refine zn ?_
    refine AT_seq ?_
    refine AT_condR (decide (x76 < v174)) (by kernel_rfl) (fun hc84 => ?_) (fun hc84 => ?_)
    · rw [if_f hc84] at h
      refine AT_exit ?_
      refine athen_e ?_
      refine athen_e ?_
      refine ablock_h ?_
      refine athen_n ?_
      refine AT_region ?_
      refine seg 1 [2, 4, 5, 7, 10, 21, 22, 28, 29, 30, 55] [(55, .ob m21 1)] [1, 2, 3, 4, 5, 6] (by kernel_rfl) (by kernel_rfl) ?_
      refine AOps_load (T := 31) (off := 1) (cs := [i64 v152, .sl 1 (x72.map (eL 14 PageInfo.enc)) (some tk96)]) (.sl 1 (x72.map (eL 14 PageInfo.enc)) (some tk96)) (tl_get rfl) rfl rfl rfl (hh.ob 3 (by kernel_rfl)) (.inr ⟨by kernel_rfl, by kernel_rfl⟩) ?_
      refine fg [2, 4, 5, 7, 10, 21, 22, 28, 29, 30, 56] ?_
      refine seg 1 [2, 4, 5, 7, 21, 22, 28, 29, 30, 56, 57] [(57, .sl 14 (x75.map PageInfo.enc) (some tk93))] [3, 4, 5, 6] (by kernel_rfl) (by kernel_rfl) ?_
      refine AOps_weaken (le_eq (b := mkS 81 [(2, .ob m1 0), (4, .ob m14 0), (5, .ob m15 0), (7, .ob m21 0), (21, i64 v105), (22, i64 x58), (28, .sl 3 (v101.map Col.enc) none), (29, i64 (v101.length : Int)), (30, i64 x69), (56, .sl 1 (x72.map (eL 14 PageInfo.enc)) (some tk96)), (57, .sl 14 (x75.map PageInfo.enc) (some tk93))]) (by kernel_rfl) (mkS_le (.cons (D.le.refl _) (.cons (D.le.refl _) (.cons (D.le.refl _) (.cons (D.le.refl _) (.cons (D.le.refl _) (.cons (D.le.refl _) (.cons (D.le.refl _) (.cons (D.le.refl _) (.cons (D.le.refl _) (.cons (D.le.refl _) (.cons (sl_le) .nil))))))))))))) ?_
      refine AOps_litU (sz := 1) (es := [[.sl 14 (x75.map PageInfo.enc) none]]) (tl_get rfl) rfl rfl rfl (by kernel_rfl) (by decide) (by kernel_rfl) (by decide) (by kernel_rfl) (by kernel_rfl) (by intro x hx; simp only [List.mem_cons, List.not_mem_nil, or_false] at hx; rcases hx with rfl <;> rfl) (fun S_ t92 hf_ u_ => ?_)
      replace hh := hh.tkN' hf_ u_ (n := (([x75] : List (List PageInfo))).length) (by first | rfl | (simp [bytesD_len]; done) | (simp [bytesD_len]; omega))
      refine fg [2, 4, 5, 7, 21, 22, 28, 29, 30, 56, 58] ?_
      obtain ⟨hl27, h⟩ := is h
      refine AOps_appendU (bytes := 24) (es := x72.map (eL 14 PageInfo.enc)) (xs := [[.sl 14 (x75.map PageInfo.enc) none]]) (tl := (some t92)) (x72).length (tl_get rfl) rfl rfl rfl (by kernel_rfl) rfl (hh.tk 7 (by kernel_rfl)) (by simp only [List.length_map, List.length_cons, List.length_nil]) (.inl ⟨28, by kernel_rfl, rfl⟩) (by simp only [List.length_map, bytesD_len, List.length_cons, List.length_nil]; omega) (by simp only [List.length_map, bytesD_len, List.length_cons, List.length_nil]; omega) (fun S_ u_ => ?_)
      replace hh := hh.tkS' 7 (by kernel_rfl) u_ (n := (x72 ++ ([x75] : List (List PageInfo))).length) (by first | rfl | (simp [bytesD_len]; done) | (simp [bytesD_len]; omega))
      refine fg [2, 4, 5, 7, 21, 22, 28, 29, 30, 59] ?_
      refine tod 59 (.sl 1 ((x72.map (eL 14 PageInfo.enc)) ++ [[.sl 14 (x75.map PageInfo.enc) none]]) (some tk96)) (.sl 1 ((x72 ++ ([x75] : List (List PageInfo))).map (eL 14 PageInfo.enc)) (some tk96)) (by kernel_rfl) (by first | rw [List.map_append]; done | (simp only [List.map_append]; done) | (simp only [List.map_append]; rfl) | (rw [List.map_append]; rfl)) ?_
      refine seg 1 [2, 4, 5, 7, 21, 22, 28, 29, 30, 59, 60] [(60, .ob m21 1)] [6] (by kernel_rfl) (by kernel_rfl) ?_
      refine AOps_putV (T := 31) (off := 1) (cs := [i64 v152, .sl 1 (x72.map (eL 14 PageInfo.enc)) (some tk96)]) (ds := [.sl 1 ((x72 ++ ([x75] : List (List PageInfo))).map (eL 14 PageInfo.enc)) (some tk96)]) (cs' := [i64 v152, .sl 1 ((x72 ++ ([x75] : List (List PageInfo))).map (eL 14 PageInfo.enc)) (some tk96)]) (tl_get rfl) rfl rfl rfl (hh.ob 3 (by kernel_rfl)) rfl (by kernel_rfl) (Nat.le_of_ble_eq_true rfl) (LeL.refl _) (fun S_ u_ => ?_)
      replace hh := hh.obS' 3 (by kernel_rfl) u_
      refine fg0 [2, 4, 5, 7, 21, 22, 28, 29, 30] ?_
      refine AOps_end ?_
      refine ablock_n ?_
      refine athen_n ?_
      refine AT_region ?_
      refine seg 2 [2, 4, 5, 7, 21, 22, 28, 29, 30] [(30, i64 (IntKind.wrap .i64 (x69 + 1)))] [] (by kernel_rfl) (by kernel_rfl) ?_
      refine zn ?_
      exact ⟨k28, (by omega), (by omega), IntKind.wrap .i64 (x69 + 1), x77, x78, x72 ++ ([x75] : List (List PageInfo)), tk94, tk95, tk96, (le_rf (by kernel_rfl)), h, (hh.sub [0, 1, 2, 3, 5, 6, 7] (by decide) (by kernel_rfl))⟩
    rw [if_t hc84] at h
    refine zkn ?_
    refine AT_seq ?_
    refine AT_block ?_
    refine zsr ?_
    refine seg 1 [2, 4, 5, 7, 9, 10, 21, 22, 28, 29, 30, 35, 36, 38] [(38, .ob m14 0)] [1, 2, 3, 4, 5, 6] (by kernel_rfl) (by kernel_rfl) ?_
    obtain ⟨⟨v185, v186⟩, ht122, h⟩ := bs h
    simp only at h
    refine AOps_callR _ [.ob m14 0, i64 268435456] (tl_get rfl) rfl rfl rfl rfl Try.func21 (by decide) rfl ((.cons (D.le.refl _) (.cons (D.le.refl _) (.nil)))) (varint_Len_s0.ok _ (⟨x77, x78⟩ : Cursor) 268435456 _ _ m14 ((hh.have_ [0] (by decide) (by kernel_rfl)).own) _ _ ht122) ?_
    rintro _ S_ ⟨rfl, h2_⟩
    replace hh := hh.call [0] [1, 2, 3, 4, 5, 6, 7] (by decide) (by kernel_rfl) h2_ rfl
    refine fg [2, 4, 5, 7, 9, 10, 21, 22, 28, 29, 30, 35, 36, 39] ?_
    refine seg 1 [2, 4, 5, 7, 9, 10, 21, 22, 28, 29, 30, 35, 36, 39, 40] [(40, .ob m14 0)] [3, 4, 5, 6] (by kernel_rfl) (by kernel_rfl) ?_
    obtain ⟨⟨v187, v188⟩, ht123, h⟩ := bs h
    simp only at h
    refine AOps_callR _ [.ob m14 0, i64 65536] (tl_get rfl) rfl rfl rfl rfl Try.func21 (by decide) rfl ((.cons (D.le.refl _) (.cons (D.le.refl _) (.nil)))) (varint_Len_s0.ok _ v186 65536 _ _ m14 ((hh.have_ [0] (by decide) (by kernel_rfl)).own) _ _ ht123) ?_
    rintro _ S_ ⟨rfl, h2_⟩
    replace hh := hh.call [0] [1, 2, 3, 4, 5, 6, 7] (by decide) (by kernel_rfl) h2_ rfl
    refine fg [2, 4, 5, 7, 9, 10, 21, 22, 28, 29, 30, 35, 36, 39, 41] ?_
    refine seg 1 [2, 4, 5, 7, 9, 10, 21, 22, 28, 29, 30, 35, 36, 42] [(42, .ag [i64 v185, i64 v187, i64 0, bo false, bo false, i64 0, str [], i64 0, i64 0, bo false, i64 0, str [], i64 0, i64 0])] [5, 6] (by kernel_rfl) (by kernel_rfl) ?_
    refine AOps_allocV (ds := [i64 0, i64 0, i64 0, bo false, bo false, i64 0, str [], i64 0, i64 0, bo false, i64 0, str [], i64 0, i64 0]) (cs' := [i64 0, i64 0, i64 0, bo false, bo false, i64 0, str [], i64 0, i64 0, bo false, i64 0, str [], i64 0, i64 0]) (tl_get rfl) rfl rfl (by kernel_rfl) (LeL.refl _) (fun S_ m25 hf_ u_ => ?_)
    replace hh := hh.obN hf_ u_
    refine fg [2, 4, 5, 7, 9, 10, 11, 21, 22, 28, 29, 30, 35, 36, 42] ?_
    refine AOps_putV (T := 44) (off := 0) (cs := [i64 0, i64 0, i64 0, bo false, bo false, i64 0, str [], i64 0, i64 0, bo false, i64 0, str [], i64 0, i64 0]) (ds := [i64 v185, i64 v187, i64 0, bo false, bo false, i64 0, str [], i64 0, i64 0, bo false, i64 0, str [], i64 0, i64 0]) (cs' := [i64 v185, i64 v187, i64 0, bo false, bo false, i64 0, str [], i64 0, i64 0, bo false, i64 0, str [], i64 0, i64 0]) (tl_get rfl) rfl rfl rfl (hh.ob 8 (by kernel_rfl)) rfl (by kernel_rfl) (Nat.le_of_ble_eq_true rfl) (LeL.refl _) (fun S_ u_ => ?_)
    replace hh := hh.obS' 8 (by kernel_rfl) u_
    refine fg0 [2, 4, 5, 7, 9, 10, 11, 21, 22, 28, 29, 30, 35, 36] ?_
    refine znsr ?_
    refine AOps_seg 3 0x281870600eb4 (mkS 81 [(2, .ob m1 0), (4, .ob m14 0), (5, .ob m15 0), (7, .ob m21 0), (9, .pt (Col.enc (rd v101 x69 Col.zero))), (10, .sl 14 (x75.map PageInfo.enc) (some tk93)), (11, .ob m25 0), (21, i64 v105), (22, i64 x58), (28, .sl 3 (v101.map Col.enc) none), (29, i64 (v101.length : Int)), (30, i64 x69), (35, i64 v174), (36, i64 x76), (43, .ob m14 0), (45, i64 ((rd v101 x69 Col.zero).Type_))]) none [3, 4, 5] (by kernel_rfl) (by kernel_rfl) trivial ?_
    obtain ⟨⟨v189, v190⟩, ht124, h⟩ := bs h
    simp only at h
    refine AOps_callR _ [.ob m14 0, i64 ((rd v101 x69 Col.zero).Type_)] (tl_get rfl) rfl rfl rfl rfl Try.func22 (by decide) rfl ((.cons (D.le.refl _) (.cons (D.le.refl _) (.nil)))) (stat_Get_s0.ok _ v188 ((rd v101 x69 Col.zero).Type_) _ _ m14 ((hh.have_ [0] (by decide) (by kernel_rfl)).own) _ _ ht124) ?_
    rintro _ S_ ⟨rfl, h2_⟩
    replace hh := hh.call [0] [1, 2, 3, 4, 5, 6, 7, 8] (by decide) (by kernel_rfl) h2_ rfl
    refine fg [2, 4, 5, 7, 9, 10, 11, 21, 22, 28, 29, 30, 35, 36, 46] ?_
    refine seg 1 [2, 4, 5, 7, 9, 10, 11, 21, 22, 28, 29, 30, 35, 36, 46, 47] [(47, .ob m25 2)] [5] (by kernel_rfl) (by kernel_rfl) ?_
    refine AOps_putV (T := 44) (off := 2) (cs := [i64 v185, i64 v187, i64 0, bo false, bo false, i64 0, str [], i64 0, i64 0, bo false, i64 0, str [], i64 0, i64 0]) (ds := (Stat.enc v189)) (cs' := [i64 v185, i64 v187, i64 v189.Nulls, bo v189.Has, bo v189.Min.Null, i64 v189.Min.Int, str v189.Min.Text, i64 v189.Min.At.X, i64 v189.Min.At.Y, bo v189.Max.Null, i64 v189.Max.Int, str v189.Max.Text, i64 v189.Max.At.X, i64 v189.Max.At.Y]) (tl_get rfl) rfl rfl rfl (hh.ob 8 (by kernel_rfl)) rfl (by kernel_rfl) (Nat.le_of_ble_eq_true rfl) (LeL.refl _) (fun S_ u_ => ?_)
    replace hh := hh.obS' 8 (by kernel_rfl) u_
    refine fg0 [2, 4, 5, 7, 9, 10, 11, 21, 22, 28, 29, 30, 35, 36] ?_
    refine znsr ?_
    refine seg 1 [2, 4, 5, 7, 9, 11, 21, 22, 28, 29, 30, 35, 36, 48] [(48, .sl 14 (x75.map PageInfo.enc) (some tk93))] [1, 2, 3, 4] (by kernel_rfl) (by kernel_rfl) ?_
    refine AOps_load (T := 44) (off := 0) (cs := [i64 v185, i64 v187, i64 v189.Nulls, bo v189.Has, bo v189.Min.Null, i64 v189.Min.Int, str v189.Min.Text, i64 v189.Min.At.X, i64 v189.Min.At.Y, bo v189.Max.Null, i64 v189.Max.Int, str v189.Max.Text, i64 v189.Max.At.X, i64 v189.Max.At.Y]) (.ag [i64 v185, i64 v187, i64 v189.Nulls, bo v189.Has, bo v189.Min.Null, i64 v189.Min.Int, str v189.Min.Text, i64 v189.Min.At.X, i64 v189.Min.At.Y, bo v189.Max.Null, i64 v189.Max.Int, str v189.Max.Text, i64 v189.Max.At.X, i64 v189.Max.At.Y]) (tl_get rfl) rfl rfl rfl (hh.ob 8 (by kernel_rfl)) (.inl ⟨by kernel_rfl, 14, by kernel_rfl, Nat.le_of_ble_eq_true rfl, by kernel_rfl⟩) ?_
    refine fg [2, 4, 5, 7, 9, 21, 22, 28, 29, 30, 35, 36, 48, 49] ?_
    refine AOps_litU (sz := 14) (es := [[i64 v185, i64 v187, i64 v189.Nulls, bo v189.Has, bo v189.Min.Null, i64 v189.Min.Int, str v189.Min.Text, i64 v189.Min.At.X, i64 v189.Min.At.Y, bo v189.Max.Null, i64 v189.Max.Int, str v189.Max.Text, i64 v189.Max.At.X, i64 v189.Max.At.Y]]) (tl_get rfl) rfl rfl rfl (by kernel_rfl) (by decide) (by kernel_rfl) (by decide) (by kernel_rfl) (by kernel_rfl) (by intro x hx; simp only [List.mem_cons, List.not_mem_nil, or_false] at hx; rcases hx with rfl <;> rfl) (fun S_ t89 hf_ u_ => ?_)
    replace hh := hh.tkN' hf_ u_ (n := (([(⟨v185, v187, v189⟩ : PageInfo)] : List PageInfo)).length) (by first | rfl | (simp [bytesD_len]; done) | (simp [bytesD_len]; omega))
    refine fg [2, 4, 5, 7, 9, 21, 22, 28, 29, 30, 35, 36, 48, 50] ?_
    obtain ⟨hl26, h⟩ := is h
    refine AOps_appendU (bytes := 128) (es := x75.map PageInfo.enc) (xs := [[i64 v185, i64 v187, i64 v189.Nulls, bo v189.Has, bo v189.Min.Null, i64 v189.Min.Int, str v189.Min.Text, i64 v189.Min.At.X, i64 v189.Min.At.Y, bo v189.Max.Null, i64 v189.Max.Int, str v189.Max.Text, i64 v189.Max.At.X, i64 v189.Max.At.Y]]) (tl := (some t89)) (x75).length (tl_get rfl) rfl rfl rfl (by kernel_rfl) rfl (hh.tk 4 (by kernel_rfl)) (by simp only [List.length_map, List.length_cons, List.length_nil]) (.inl ⟨44, by kernel_rfl, rfl⟩) (by simp only [List.length_map, bytesD_len, List.length_cons, List.length_nil]; omega) (by simp only [List.length_map, bytesD_len, List.length_cons, List.length_nil]; omega) (fun S_ u_ => ?_)
    replace hh := hh.tkS' 4 (by kernel_rfl) u_ (n := (x75 ++ ([(⟨v185, v187, v189⟩ : PageInfo)] : List PageInfo)).length) (by first | rfl | (simp [bytesD_len]; done) | (simp [bytesD_len]; omega))
    refine fg [2, 4, 5, 7, 9, 21, 22, 28, 29, 30, 35, 36, 51] ?_
    refine tod 51 (.sl 14 ((x75.map PageInfo.enc) ++ [[i64 v185, i64 v187, i64 v189.Nulls, bo v189.Has, bo v189.Min.Null, i64 v189.Min.Int, str v189.Min.Text, i64 v189.Min.At.X, i64 v189.Min.At.Y, bo v189.Max.Null, i64 v189.Max.Int, str v189.Max.Text, i64 v189.Max.At.X, i64 v189.Max.At.Y]]) (some tk93)) (.sl 14 ((x75 ++ ([(⟨v185, v187, v189⟩ : PageInfo)] : List PageInfo)).map PageInfo.enc) (some tk93)) (by kernel_rfl) (by first | rw [List.map_append]; done | (simp only [List.map_append]; done) | (simp only [List.map_append]; rfl) | (rw [List.map_append]; rfl)) ?_
    refine seg 1 [2, 4, 5, 7, 9, 10, 21, 22, 28, 29, 30, 35, 36] [(10, .sl 14 ((x75 ++ ([(⟨v185, v187, v189⟩ : PageInfo)] : List PageInfo)).map PageInfo.enc) (some tk93))] [] (by kernel_rfl) (by kernel_rfl) ?_
    refine znsr ?_
    refine AOps_seg 1 0x100018706006b4 (mkS 81 [(2, .ob m1 0), (4, .ob m14 0), (5, .ob m15 0), (7, .ob m21 0), (9, .pt (Col.enc (rd v101 x69 Col.zero))), (10, .sl 14 ((x75 ++ ([(⟨v185, v187, v189⟩ : PageInfo)] : List PageInfo)).map PageInfo.enc) (some tk93)), (21, i64 v105), (22, i64 x58), (28, .sl 3 (v101.map Col.enc) none), (29, i64 (v101.length : Int)), (30, i64 x69), (35, i64 v174), (36, i64 x76), (52, .ob m14 0)]) none [1] (by kernel_rfl) (by kernel_rfl) trivial ?_
    obtain ⟨v191, ht125, h⟩ := bs h
    refine AOps_callR _ [.ob m14 0] (tl_get rfl) rfl rfl rfl rfl Try.func23 (by decide) rfl ((.cons (D.le.refl _) (.nil))) (cursor_Cursor_Bad_s0.ok v190 _ _ m14 ((hh.have_ [0] (by decide) (by kernel_rfl)).own) _ ht125) ?_
    rintro _ S_ ⟨rfl, h2_⟩
    replace hh := hh.call [0] [1, 2, 3, 4, 5, 6, 7, 8, 9] (by decide) (by kernel_rfl) h2_ rfl
    refine fg [2, 4, 5, 7, 9, 10, 21, 22, 28, 29, 30, 35, 36, 53] ?_
    refine zn ?_
    refine AT_condR v191 (by kernel_rfl) (fun hc85 => ?_) (fun hc85 => ?_)
    · rw [if_f hc85] at h
      refine AT_skip ?_
      refine ablock_n ?_
      refine athen_n ?_
      refine AT_region ?_
      refine seg 2 [2, 4, 5, 7, 9, 10, 21, 22, 28, 29, 30, 35, 36] [(36, i64 (IntKind.wrap .i64 (x76 + 1)))] [] (by kernel_rfl) (by kernel_rfl) ?_
      refine zn ?_
      exact ⟨k28, (by omega), (by omega), x75 ++ ([(⟨v185, v187, v189⟩ : PageInfo)] : List PageInfo), IntKind.wrap .i64 (x76 + 1), v190.left, v190.bad, tk93, tk94, tk95, tk96, (le_rf (by kernel_rfl)), h, (hh.sub [0, 1, 2, 3, 4, 5, 6, 7] (by decide) (by kernel_rfl))⟩
    rw [if_t hc85] at h
    refine AT_exit ?_
    refine ablock_o (by decide) ?_
    refine athen_e ?_
    refine athen_e ?_
    refine ablock_o (by decide) ?_
    refine athen_e ?_
    refine ablock_o (by decide) ?_
    refine athen_e ?_
    refine athen_e ?_
    refine ablock_o (by decide) ?_
    refine athen_e ?_
    refine ablock_o (by decide) ?_
    refine athen_e ?_
    refine athen_e ?_
    refine ablock_h ?_
    refine athen_n ?_
    refine AT_seq ?_
    refine zsr ?_
    refine seg 1 [2, 5, 71] [(71, .ob m14 0)] [1, 2, 3, 4, 5, 6, 7] (by kernel_rfl) (by kernel_rfl) ?_
    obtain ⟨v192, ht126, h⟩ := bs h
    refine AOps_callR _ [.ob m14 0] (tl_get rfl) rfl rfl rfl rfl Try.func24 (by decide) rfl ((.cons (D.le.refl _) (.nil))) (cursor_Cursor_End_s0.ok v190 _ _ m14 ((hh.have_ [0] (by decide) (by kernel_rfl)).own) _ ht126) ?_
    rintro _ S_ ⟨rfl, h2_⟩
    replace hh := hh.call [0] [1, 2, 3, 4, 5, 6, 7, 8, 9] (by decide) (by kernel_rfl) h2_ rfl
    refine fg [2, 5, 72] ?_
    refine seg 2 [2, 5, 74] [(74, bo (!v192))] [4, 5, 6, 7] (by kernel_rfl) (by kernel_rfl) ?_
    refine cased 74 (!v192) (by kernel_rfl) (fun hc86 => ?_) (fun hc86 => ?_)
    · rw [if_t hc86] at h
      refine seg 4 [2, 5, 78] [(78, bo true)] [] (by kernel_rfl) (by kernel_rfl) ?_
      refine zn ?_
      refine AT_cond_t (by kernel_rfl) ?_
      refine zsr ?_
      refine seg 1 [2, 79] [(79, .ag [nilS, i64 0, nilS])] [1, 2] (by kernel_rfl) (by kernel_rfl) ?_
      refine AOps_putV (T := 25) (off := 0) (cs := [.sl 3 (([] : List Col).map Col.enc) none, i64 0, .sl 2 [] (some tk94)]) (ds := [nilS, i64 0, nilS]) (cs' := [.sl 3 (([] : List Col).map Col.enc) none, i64 0, nilS]) (tl_get rfl) rfl rfl rfl (hh.ob 1 (by kernel_rfl)) rfl (by kernel_rfl) (Nat.le_of_ble_eq_true rfl) (.cons (nil_le) (.cons (D.le.refl _) (.cons (D.le.refl _) (.nil)))) (fun S_ u_ => ?_)
      replace hh := hh.obS' 1 (by kernel_rfl) u_
      refine AOps_nilO (k := m1) (T := 25) (cs := [.sl 3 (([] : List Col).map Col.enc) none, i64 0, nilS]) 2 2 (hh.ob 1 (by kernel_rfl)) rfl (fun S_ t90 hf_ h1_ h2_ h3_ => ?_)
      replace hh := hh.nilO 1 (by kernel_rfl) hf_ h1_ h2_ h3_ (L' := [.o m14 (.cells 77 [.sl 1 (v190.left.map eB) none, bo v190.bad]), .o m1 (.cells 25 [.sl 3 (([] : List Col).map Col.enc) none, i64 0, .sl 2 [] (some t90)]), .o m15 (.cells 25 [.sl 3 (v101.map Col.enc) none, i64 v103, .sl 2 (x61.map Group.enc) (some tk95)]), .o m21 (.cells 31 [i64 v152, .sl 1 (x72.map (eL 14 PageInfo.enc)) (some tk96)]), .t tk93 (x75 ++ ([(⟨v185, v187, v189⟩ : PageInfo)] : List PageInfo)).length 14, .t tk94 (([] : List Group)).length 2, .t tk95 (x61).length 2, .t tk96 (x72).length 1, .o m25 (.cells 44 [i64 v185, i64 v187, i64 v189.Nulls, bo v189.Has, bo v189.Min.Null, i64 v189.Min.Int, str v189.Min.Text, i64 v189.Min.At.X, i64 v189.Min.At.Y, bo v189.Max.Null, i64 v189.Max.Int, str v189.Max.Text, i64 v189.Max.At.X, i64 v189.Max.At.Y]), .t t89 (([(⟨v185, v187, v189⟩ : PageInfo)] : List PageInfo)).length 14, .t t90 (([] : List Group)).length 2]) (by kernel_rfl)
      refine fg0 [2] ?_
      refine seg 1 [2, 3] [(3, bo false)] [] (by kernel_rfl) (by kernel_rfl) ?_
      refine zn ?_
      refine AT_ret ?_
      refine athen_r ?_
      refine scope_r ?_
      have e0_ : (⟨([] : List Col), 0, ([] : List Group)⟩ : Footer) = r0 := congrArg (fun p_ => p_.1) (Option.some.inj h)
      have e1_ : false = r1 := congrArg (fun p_ => p_.2) (Option.some.inj h)
      subst e0_
      subst e1_
      exact ⟨[.ag [.sl 3 (([] : List Col).map Col.enc) none, i64 0, .sl 2 [] (some t90)], bo false], _, S_, (.ob (k := m1) (o := 0) (T := 25) (cs := [.sl 3 (([] : List Col).map Col.enc) none, i64 0, .sl 2 [] (some t90)]) (by kernel_rfl) (hh.ob 1 (by kernel_rfl)) (.inl ⟨by kernel_rfl, 3, by kernel_rfl, Nat.le_of_ble_eq_true rfl, by kernel_rfl⟩) (.tmp (.nil))), (tup_le (.cons ((ag_le (.cons (D.le.refl _) (.cons (D.le.refl _) (.cons (sl_le) (.nil)))))) (.cons (D.le.refl _) (.nil)))), Store.le.refl _, rfl, (hh.sub [] (by decide) (by kernel_rfl))⟩
    rw [if_f hc86] at h
    refine AOps_load (T := 25) (off := 0) (cs := [.sl 3 (v101.map Col.enc) none, i64 v103, .sl 2 (x61.map Group.enc) (some tk95)]) (.ag [.sl 3 (v101.map Col.enc) none, i64 v103, .sl 2 (x61.map Group.enc) (some tk95)]) (tl_get rfl) rfl rfl rfl (hh.ob 2 (by kernel_rfl)) (.inl ⟨by kernel_rfl, 3, by kernel_rfl, Nat.le_of_ble_eq_true rfl, by kernel_rfl⟩) ?_
    refine fg [2, 5, 74, 75] ?_
    refine AOps_weaken (le_eq (b := mkS 81 [(2, .ob m1 0), (5, .ob m15 0), (74, bo false), (75, .ag [.sl 3 (v101.map Col.enc) none, i64 v103, .sl 2 (x61.map Group.enc) (some tk95)])]) (by kernel_rfl) (mkS_le (.cons (D.le.refl _) (.cons (D.le.refl _) (.cons (D.le.refl _) (.cons ((ag_le (.cons (D.le.refl _) (.cons (D.le.refl _) (.cons (sl_le) (.nil)))))) .nil)))))) ?_
    obtain ⟨v193, ht127, h⟩ := bs h
    refine AOps_callR _ [.ag (Footer.enc (⟨v101, v103, x61⟩ : Footer))] (tl_get rfl) rfl rfl rfl rfl Try.func12 (by decide) rfl ((.cons (D.le.refl _) (.nil))) (footer_Right.ok _ (⟨v101, v103, x61⟩ : Footer) _  _ ht127) ?_
    rintro _ S_ ⟨rfl, h2_⟩
    replace hh := hh.call0 h2_
    refine fg [2, 5, 74, 76] ?_
    refine seg 2 [2, 5, 78] [(78, bo (!v193))] [] (by kernel_rfl) (by kernel_rfl) ?_
    refine zn ?_
    refine AT_condS (!v193) (by kernel_rfl) (fun hc87 => ?_) (fun hc87 => ?_)
    · rw [if_t hc87] at h
      refine zsr ?_
      refine seg 1 [2, 79] [(79, .ag [nilS, i64 0, nilS])] [1, 2] (by kernel_rfl) (by kernel_rfl) ?_
      refine AOps_putV (T := 25) (off := 0) (cs := [.sl 3 (([] : List Col).map Col.enc) none, i64 0, .sl 2 [] (some tk94)]) (ds := [nilS, i64 0, nilS]) (cs' := [.sl 3 (([] : List Col).map Col.enc) none, i64 0, nilS]) (tl_get rfl) rfl rfl rfl (hh.ob 1 (by kernel_rfl)) rfl (by kernel_rfl) (Nat.le_of_ble_eq_true rfl) (.cons (nil_le) (.cons (D.le.refl _) (.cons (D.le.refl _) (.nil)))) (fun S_ u_ => ?_)
      replace hh := hh.obS' 1 (by kernel_rfl) u_
      refine AOps_nilO (k := m1) (T := 25) (cs := [.sl 3 (([] : List Col).map Col.enc) none, i64 0, nilS]) 2 2 (hh.ob 1 (by kernel_rfl)) rfl (fun S_ t91 hf_ h1_ h2_ h3_ => ?_)
      replace hh := hh.nilO 1 (by kernel_rfl) hf_ h1_ h2_ h3_ (L' := [.o m14 (.cells 77 [.sl 1 (v190.left.map eB) none, bo v190.bad]), .o m1 (.cells 25 [.sl 3 (([] : List Col).map Col.enc) none, i64 0, .sl 2 [] (some t91)]), .o m15 (.cells 25 [.sl 3 (v101.map Col.enc) none, i64 v103, .sl 2 (x61.map Group.enc) (some tk95)]), .o m21 (.cells 31 [i64 v152, .sl 1 (x72.map (eL 14 PageInfo.enc)) (some tk96)]), .t tk93 (x75 ++ ([(⟨v185, v187, v189⟩ : PageInfo)] : List PageInfo)).length 14, .t tk94 (([] : List Group)).length 2, .t tk95 (x61).length 2, .t tk96 (x72).length 1, .o m25 (.cells 44 [i64 v185, i64 v187, i64 v189.Nulls, bo v189.Has, bo v189.Min.Null, i64 v189.Min.Int, str v189.Min.Text, i64 v189.Min.At.X, i64 v189.Min.At.Y, bo v189.Max.Null, i64 v189.Max.Int, str v189.Max.Text, i64 v189.Max.At.X, i64 v189.Max.At.Y]), .t t89 (([(⟨v185, v187, v189⟩ : PageInfo)] : List PageInfo)).length 14, .t t91 (([] : List Group)).length 2]) (by kernel_rfl)
      refine fg0 [2] ?_
      refine seg 1 [2, 3] [(3, bo false)] [] (by kernel_rfl) (by kernel_rfl) ?_
      refine zn ?_
      refine AT_ret ?_
      refine athen_r ?_
      refine scope_r ?_
      have e0_ : (⟨([] : List Col), 0, ([] : List Group)⟩ : Footer) = r0 := congrArg (fun p_ => p_.1) (Option.some.inj h)
      have e1_ : false = r1 := congrArg (fun p_ => p_.2) (Option.some.inj h)
      subst e0_
      subst e1_
      exact ⟨[.ag [.sl 3 (([] : List Col).map Col.enc) none, i64 0, .sl 2 [] (some t91)], bo false], _, S_, (.ob (k := m1) (o := 0) (T := 25) (cs := [.sl 3 (([] : List Col).map Col.enc) none, i64 0, .sl 2 [] (some t91)]) (by kernel_rfl) (hh.ob 1 (by kernel_rfl)) (.inl ⟨by kernel_rfl, 3, by kernel_rfl, Nat.le_of_ble_eq_true rfl, by kernel_rfl⟩) (.tmp (.nil))), (tup_le (.cons ((ag_le (.cons (D.le.refl _) (.cons (D.le.refl _) (.cons (sl_le) (.nil)))))) (.cons (D.le.refl _) (.nil)))), Store.le.refl _, rfl, (hh.sub [] (by decide) (by kernel_rfl))⟩
    rw [if_f hc87] at h
    refine zkn ?_
    refine zsr ?_
    refine AOps_load (T := 25) (off := 0) (cs := [.sl 3 (v101.map Col.enc) none, i64 v103, .sl 2 (x61.map Group.enc) (some tk95)]) (.ag [.sl 3 (v101.map Col.enc) none, i64 v103, .sl 2 (x61.map Group.enc) (some tk95)]) (tl_get rfl) rfl rfl rfl (hh.ob 2 (by kernel_rfl)) (.inl ⟨by kernel_rfl, 3, by kernel_rfl, Nat.le_of_ble_eq_true rfl, by kernel_rfl⟩) ?_
    refine fg [2, 80] ?_
    refine AOps_weaken (le_eq (b := mkS 81 [(2, .ob m1 0), (80, .ag [.sl 3 (v101.map Col.enc) none, i64 v103, .sl 2 (x61.map Group.enc) (some tk95)])]) (by kernel_rfl) (mkS_le (.cons (D.le.refl _) (.cons ((ag_le (.cons (D.le.refl _) (.cons (D.le.refl _) (.cons (sl_le) (.nil)))))) .nil)))) ?_
    refine AOps_putV (T := 25) (off := 0) (cs := [.sl 3 (([] : List Col).map Col.enc) none, i64 0, .sl 2 [] (some tk94)]) (ds := [.sl 3 (v101.map Col.enc) none, i64 v103, .sl 2 (x61.map Group.enc) none]) (cs' := [.sl 3 (v101.map Col.enc) none, i64 v103, .sl 2 (x61.map Group.enc) none]) (tl_get rfl) rfl rfl rfl (hh.ob 1 (by kernel_rfl)) rfl (by kernel_rfl) (Nat.le_of_ble_eq_true rfl) (LeL.refl _) (fun S_ u_ => ?_)
    replace hh := hh.obS' 1 (by kernel_rfl) u_
    refine fg0 [2] ?_
    refine seg 1 [2, 3] [(3, bo true)] [] (by kernel_rfl) (by kernel_rfl) ?_
    refine zn ?_
    refine AT_ret ?_
    refine scope_r ?_
    have e0_ : (⟨v101, v103, x61⟩ : Footer) = r0 := congrArg (fun p_ => p_.1) (Option.some.inj h)
    have e1_ : true = r1 := congrArg (fun p_ => p_.2) (Option.some.inj h)
    subst e0_
    subst e1_
    exact ⟨[.ag [.sl 3 (v101.map Col.enc) none, i64 v103, .sl 2 (x61.map Group.enc) none], bo true], _, S_, (.ob (k := m1) (o := 0) (T := 25) (cs := [.sl 3 (v101.map Col.enc) none, i64 v103, .sl 2 (x61.map Group.enc) none]) (by kernel_rfl) (hh.ob 1 (by kernel_rfl)) (.inl ⟨by kernel_rfl, 3, by kernel_rfl, Nat.le_of_ble_eq_true rfl, by kernel_rfl⟩) (.tmp (.nil))), D.le.refl _, Store.le.refl _, rfl, (hh.sub [] (by decide) (by kernel_rfl))⟩
end Go.Proofs.Ytfaojkajlpojlaa.Abs
