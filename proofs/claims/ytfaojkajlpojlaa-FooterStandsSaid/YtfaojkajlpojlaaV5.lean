/- What functions of the program compute, each with the proof that it does (printed by wip/gen/all2.py). -/
import Derived.Test.YtfaojkajlpojlaaV4
import Derived.KernelRfl
namespace Go.Proofs.Ytfaojkajlpojlaa.Abs
open Go
set_option maxRecDepth 100000
def plain_put.f (k : Nat) (a0 : (List UInt8)) (a1 : Int) (a2 : Cell) : Option ((List UInt8)) := if (a1 == 0) = true then ((cursor_U64.f k a0 (IntKind.wrap .u64 a2.Int)).bind fun v1 => (some v1)) else (if (a1 == 3) = true then ((varint_Zig.f a2.At.X).bind fun v2 => ((varint_Put.f k a0 v2).bind fun v3 => ((varint_Zig.f a2.At.Y).bind fun v4 => ((varint_Put.f k v3 v4).bind fun v5 => (some v5))))) else ((varint_Put.f k a0 (IntKind.wrap .u64 (a2.Text.length : Int))).bind fun v6 => (if (v6.length + a2.Text.length) * 1 ≤ 140737488355328 then (some (v6 ++ a2.Text)) else none)))
theorem plain_put.mono (k : Nat) (a0 : (List UInt8)) (a1 : Int) (a2 : Cell) : LeO (plain_put.f k a0 a1 a2) (plain_put.f (k + 1) a0 a1 a2) := by
  unfold plain_put.f
  repeat' first
    | exact LeO.refl _
    | exact LeO.none _
    | exact cursor_U64.mono _ _ _
    | exact varint_Put.mono _ _ _
    | refine LeO.ite ?_ ?_
    | refine LeO.bind ?_ (fun _ => ?_)
theorem plain_put.ok (k : Nat) (a0 : (List UInt8)) (a1 : Int) (a2 : Cell) (S : Store) (r : (List UInt8)) (h : plain_put.f k a0 a1 a2 = some r) : ACalls Try.prog 46 [.sl 1 (a0.map eB) none, i64 a1, .ag (Cell.enc a2)] S (fun r_ S_ => ∃ (u0 : Nat), r_ = .sl 1 (r.map eB) (some u0) ∧ Own S [] S_ [.t u0 (r).length 1]) := by
  unfold plain_put.f at h
  refine acalls_of Try.func46 rfl ?_
  have hh := Own.nil (S := S)
  refine AT_forget 0x7 (mkS 38 [(0, .sl 1 (a0.map eB) none), (1, i64 a1), (2, .ag (Cell.enc a2))]) (by kernel_rfl) ?_
  refine zsr ?_
  refine AOps_box_im (ds := (Cell.enc a2)) (tl_get rfl) rfl rfl (by kernel_rfl) ?_
  refine fg [0, 1, 5] ?_
  refine seg 1 [0, 1, 5] [] [] (by kernel_rfl) (by kernel_rfl) ?_
  refine zn ?_
  refine AT_seq ?_
  refine zsr ?_
  refine seg 1 [0, 5, 7] [(7, i64 a1)] [] (by kernel_rfl) (by kernel_rfl) ?_
  refine zn ?_
  refine AT_block ?_
  refine zsr ?_
  refine seg 2 [0, 5, 7, 8] [(8, bo (a1 == 0))] [] (by kernel_rfl) (by kernel_rfl) ?_
  refine zn ?_
  refine AT_condS (a1 == 0) (by kernel_rfl) (fun hc1 => ?_) (fun hc1 => ?_)
  · rw [if_t hc1] at h
    refine zsr ?_
    refine seg 4 [10, 13] [(10, .sl 1 (a0.map eB) none), (13, u64 (IntKind.wrap .u64 a2.Int))] [4, 5] (by kernel_rfl) (by kernel_rfl) ?_
    obtain ⟨v1, ht1, h⟩ := bs h
    refine AOps_callR _ [.sl 1 (a0.map eB) none, u64 (IntKind.wrap .u64 a2.Int)] (tl_get rfl) rfl rfl rfl rfl Try.func61 (by decide) rfl ((.cons (D.le.refl _) (.cons (D.le.refl _) (.nil)))) (cursor_U64.ok _ a0 (IntKind.wrap .u64 a2.Int) _  _ ht1) ?_
    rintro _ S_ ⟨t1, rfl, h2_⟩
    replace hh := hh.calln h2_
    refine fg [14] ?_
    refine seg 1 [6] [(6, .sl 1 (v1.map eB) (some t1))] [] (by kernel_rfl) (by kernel_rfl) ?_
    refine zn ?_
    refine AT_ret ?_
    refine ablock_r ?_
    refine athen_r ?_
    have e_ := Option.some.inj h
    subst e_
    exact ⟨[.sl 1 (v1.map eB) (some t1)], _, S_, (.of (by kernel_rfl)), D.le.refl _, Store.le.refl _, t1, rfl, hh⟩
  rw [if_f hc1] at h
  refine zsr ?_
  refine seg 2 [0, 5, 15] [(15, bo (a1 == 3))] [] (by kernel_rfl) (by kernel_rfl) ?_
  refine zn ?_
  refine AT_condR (a1 == 3) (by kernel_rfl) (fun hc2 => ?_) (fun hc2 => ?_)
  · rw [if_f hc2] at h
    refine AT_skip ?_
    refine ablock_n ?_
    refine athen_n ?_
    refine AT_seq ?_
    refine AT_draw [5, 8] 10 (fun _ => True) (by kernel_rfl) ?_
    refine aseg 10 [] [0, 5] [] #[false, false, false, false, false, false, false, false, false, false] (by kernel_rfl) (by kernel_rfl) ?_
    refine aseg 3 [0, 1, 2, 3, 4, 6, 7] [29, 33, 36] [(29, .sl 1 (a0.map eB) none), (33, u64 (IntKind.wrap .u64 (a2.Text.length : Int))), (36, str a2.Text)] #[true, true, true, true, true, false, true, true, false, false] (by kernel_rfl) (by kernel_rfl) ?_
    refine AAny_eff (fuel := 2) 5 (.inr trivial) (tl_get rfl) (by kernel_rfl) (by kernel_rfl) (by kernel_rfl) ?_
    obtain ⟨v6, ht6, h⟩ := bs h
    refine AOps_callR _ [.sl 1 (a0.map eB) none, u64 (IntKind.wrap .u64 (a2.Text.length : Int))] (tl_get rfl) rfl rfl rfl rfl Try.func17 (by decide) rfl ((.cons (D.le.refl _) (.cons (D.le.refl _) (.nil)))) (varint_Put.ok _ a0 (IntKind.wrap .u64 (a2.Text.length : Int)) _  _ ht6) ?_
    rintro _ S_ ⟨t4, rfl, h2_⟩
    replace hh := hh.calln h2_
    refine AOps_end ⟨rfl, _, rfl, ?_⟩; refine afg [34, 36] #[true, true, true, true, true, true, true, true, false, false] (by kernel_rfl) ?_
    refine AAny_eff (fuel := 1) 8 (.inr trivial) (tl_get rfl) (by kernel_rfl) (by kernel_rfl) (by kernel_rfl) ?_
    obtain ⟨hl1, h⟩ := is h
    refine AOps_appendU (bytes := 1) (es := v6.map eB) (xs := bytesD ⟨a2.Text.toArray⟩) (tl := none) (v6).length (tl_get rfl) rfl rfl rfl (by kernel_rfl) rfl (hh.tk 0 (by kernel_rfl)) (by simp only [List.length_map, List.length_cons, List.length_nil]) (.inr ⟨_, by kernel_rfl, rfl, rfl, rfl⟩) (by simp only [List.length_map, bytesD_len, List.length_cons, List.length_nil]; omega) (by simp only [List.length_map, bytesD_len, List.length_cons, List.length_nil]; omega) (fun S_ u_ => ?_)
    replace hh := hh.tkS' 0 (by kernel_rfl) u_ (n := (v6 ++ a2.Text).length) (by first | rfl | (simp [bytesD_len]; done) | (simp [bytesD_len]; omega))
    refine AOps_end ⟨rfl, _, rfl, ?_⟩; refine AAny_forget 0x2000000000 (mkS 38 [(37, .sl 1 ((v6.map eB) ++ (bytesD ⟨a2.Text.toArray⟩)) (some t4))]) #[true, true, true, true, true, true, true, true, true, false] (by kernel_rfl) (by kernel_rfl) ?_
    refine atod 37 (.sl 1 ((v6.map eB) ++ (bytesD ⟨a2.Text.toArray⟩)) (some t4)) (.sl 1 ((v6 ++ a2.Text).map eB) (some t4)) (by kernel_rfl) (by first | rw [List.map_append]; done | (simp only [List.map_append, bytesD_eq]; done) | (simp only [List.map_append, bytesD_eq]; rfl) | (rw [List.map_append]; rfl)) ?_
    refine aseg 0 [9] [6] [(6, .sl 1 ((v6 ++ a2.Text).map eB) (some t4))] #[true, true, true, true, true, true, true, true, true, true] (by kernel_rfl) (by kernel_rfl) ?_
    refine AAny_end (.inr trivial) (by kernel_rfl) ?_
    refine athen_n ?_
    refine AT_ret ?_
    have e_ := Option.some.inj h
    subst e_
    exact ⟨[.sl 1 ((v6 ++ a2.Text).map eB) (some t4)], _, S_, (.of (by kernel_rfl)), D.le.refl _, Store.le.refl _, t4, rfl, hh⟩
  rw [if_t hc2] at h
  refine zsr ?_
  refine seg 4 [5, 17, 20] [(17, .sl 1 (a0.map eB) none), (20, i64 a2.At.X)] [4, 5, 6] (by kernel_rfl) (by kernel_rfl) ?_
  obtain ⟨v2, ht2, h⟩ := bs h
  refine AOps_callR _ [i64 a2.At.X] (tl_get rfl) rfl rfl rfl rfl Try.func62 (by decide) rfl ((.cons (D.le.refl _) (.nil))) (varint_Zig.ok a2.At.X _  _ ht2) ?_
  rintro _ S_ ⟨rfl, h2_⟩
  replace hh := hh.call0 h2_
  refine fg [5, 17, 21] ?_
  obtain ⟨v3, ht3, h⟩ := bs h
  refine AOps_callR _ [.sl 1 (a0.map eB) none, u64 v2] (tl_get rfl) rfl rfl rfl rfl Try.func17 (by decide) rfl ((.cons (D.le.refl _) (.cons (D.le.refl _) (.nil)))) (varint_Put.ok _ a0 v2 _  _ ht3) ?_
  rintro _ S_ ⟨t2, rfl, h2_⟩
  replace hh := hh.calln h2_
  refine fg [5, 22] ?_
  refine AOps_seg 1 0x21 (mkS 38 [(0, .sl 1 (v3.map eB) (some t2)), (5, .pt (Cell.enc a2))]) none [] (by kernel_rfl) (by kernel_rfl) trivial ?_
  refine znsr ?_
  refine seg 4 [23, 26] [(23, .sl 1 (v3.map eB) (some t2)), (26, i64 a2.At.Y)] [4, 5, 6] (by kernel_rfl) (by kernel_rfl) ?_
  obtain ⟨v4, ht4, h⟩ := bs h
  refine AOps_callR _ [i64 a2.At.Y] (tl_get rfl) rfl rfl rfl rfl Try.func62 (by decide) rfl ((.cons (D.le.refl _) (.nil))) (varint_Zig.ok a2.At.Y _  _ ht4) ?_
  rintro _ S_ ⟨rfl, h2_⟩
  replace hh := hh.call0 h2_
  refine fg [23, 27] ?_
  obtain ⟨v5, ht5, h⟩ := bs h
  refine AOps_callR _ [.sl 1 (v3.map eB) none, u64 v4] (tl_get rfl) rfl rfl rfl rfl Try.func17 (by decide) rfl ((.cons (sl_le) (.cons (D.le.refl _) (.nil)))) (varint_Put.ok _ v3 v4 _  _ ht5) ?_
  rintro _ S_ ⟨t3, rfl, h2_⟩
  replace hh := hh.calln h2_
  refine fg [28] ?_
  refine seg 1 [6] [(6, .sl 1 (v5.map eB) (some t3))] [] (by kernel_rfl) (by kernel_rfl) ?_
  refine zn ?_
  refine AT_ret ?_
  refine ablock_r ?_
  refine athen_r ?_
  have e_ := Option.some.inj h
  subst e_
  exact ⟨[.sl 1 (v5.map eB) (some t3)], _, S_, (.of (by kernel_rfl)), D.le.refl _, Store.le.refl _, t3, rfl, (hh.sub [0] (by decide) (by kernel_rfl))⟩
mutual
def plain_Encode.l0 : Nat → (List Cell) → Int → (List Int) → Option ((List UInt8) × Bool)
  | 0, _, _, _ => none
  | k + 1, a1, x2, x3 => if (decide (x2 < (a1.length : Int))) = true then (if 0 ≤ x2 ∧ x2 < (a1.length : Int) then (if 0 ≤ x2 ∧ x2 < ((((a1.length : Int) : Int).toNat : Nat) : Int) then (plain_Encode.l0 k a1 (IntKind.wrap .i64 (x2 + 1)) (setI x3 x2 (IntKind.wrap .u64 ((rd a1 x2 Cell.zero).Int)))) else none) else none) else ((bitpack_Pack.f k x3 1).bind fun q_v2 => (some (q_v2.1, q_v2.2)))
def plain_Encode.l1 : Nat → Int → (List Cell) → (List UInt8) → Int → Option ((List UInt8) × Bool)
  | 0, _, _, _, _ => none
  | k + 1, a0, a1, x4, x5 => if (decide (x5 < (a1.length : Int))) = true then (if 0 ≤ x5 ∧ x5 < (a1.length : Int) then ((plain_put.f k ([] : List UInt8) a0 (rd a1 x5 Cell.zero)).bind fun v4 => (if (x4.length + v4.length) * 1 ≤ 140737488355328 then (plain_Encode.l1 k a0 a1 (x4 ++ v4) (IntKind.wrap .i64 (x5 + 1))) else none)) else none) else (some (x4, true))
end
def plain_Encode.f (k : Nat) (a0 : Int) (a1 : (List Cell)) : Option ((List UInt8) × Bool) := (plain_right.f k a0 a1).bind fun v1 => (if (!v1) = true then (some ([], false)) else (if (a0 == 1) = true then (if 0 ≤ (a1.length : Int) ∧ (8 : Int) * (a1.length : Int) ≤ 281474976710656 ∧ (a1.length : Int) ≤ 9223372036854775807 then (plain_Encode.l0 k a1 0 (List.replicate (((a1.length : Int) : Int).toNat) (0 : Int))) else none) else (plain_Encode.l1 k a0 a1 ([] : List UInt8) 0)))
theorem plain_Encode.mono_l : ∀ k, (∀ y0 y1 y2, LeO (plain_Encode.l0 k y0 y1 y2) (plain_Encode.l0 (k + 1) y0 y1 y2)) ∧ (∀ y0 y1 y2 y3, LeO (plain_Encode.l1 k y0 y1 y2 y3) (plain_Encode.l1 (k + 1) y0 y1 y2 y3))
  | 0 => ⟨fun _ _ _ r h => (by simp only [plain_Encode.l0] at h; cases h), fun _ _ _ _ r h => (by simp only [plain_Encode.l1] at h; cases h)⟩
  | k + 1 => by
    have ih := plain_Encode.mono_l k
    refine ⟨?_, ?_⟩
    · intro y0 y1 y2
      rw [plain_Encode.l0, plain_Encode.l0]
      repeat' first
        | exact LeO.refl _
        | exact LeO.none _
        | exact ih.1 _ _ _
        | exact ih.2 _ _ _ _
        | exact bitpack_Pack.mono _ _ _
        | exact plain_put.mono _ _ _ _
        | exact plain_right.mono _ _ _
        | refine LeO.ite ?_ ?_
        | refine LeO.bind ?_ (fun _ => ?_)
    · intro y0 y1 y2 y3
      rw [plain_Encode.l1, plain_Encode.l1]
      repeat' first
        | exact LeO.refl _
        | exact LeO.none _
        | exact ih.1 _ _ _
        | exact ih.2 _ _ _ _
        | exact bitpack_Pack.mono _ _ _
        | exact plain_put.mono _ _ _ _
        | exact plain_right.mono _ _ _
        | refine LeO.ite ?_ ?_
        | refine LeO.bind ?_ (fun _ => ?_)
theorem plain_Encode.mono (k : Nat) (a0 : Int) (a1 : (List Cell)) : LeO (plain_Encode.f k a0 a1) (plain_Encode.f (k + 1) a0 a1) := by
  unfold plain_Encode.f
  repeat' first
    | exact LeO.refl _
    | exact LeO.none _
    | exact (plain_Encode.mono_l k).1 _ _ _
    | exact (plain_Encode.mono_l k).2 _ _ _ _
    | exact bitpack_Pack.mono _ _ _
    | exact plain_put.mono _ _ _ _
    | exact plain_right.mono _ _ _
    | refine LeO.ite ?_ ?_
    | refine LeO.bind ?_ (fun _ => ?_)
theorem plain_Encode.ok (k : Nat) (a0 : Int) (a1 : (List Cell)) (S : Store) (r0 : (List UInt8)) (r1 : Bool) (h : plain_Encode.f k a0 a1 = some (r0, r1)) : ACalls Try.prog 33 [i64 a0, .sl 5 (a1.map Cell.enc) none] S (fun r_ S_ => r_ = .tup [.sl 1 (r0.map eB) none, bo r1] ∧ Own S [] S_ []) := by
  unfold plain_Encode.f at h
  refine acalls_of Try.func33 rfl ?_
  have hh := Own.nil (S := S)
  refine AT_forget 0x3 (mkS 52 [(0, i64 a0), (1, .sl 5 (a1.map Cell.enc) none)]) (by kernel_rfl) ?_
  refine zsr ?_
  refine seg 2 [0, 1] [] [] (by kernel_rfl) (by kernel_rfl) ?_
  refine zn ?_
  refine AT_seq ?_
  refine zsr ?_
  refine seg 2 [0, 1, 12, 13] [(12, i64 a0), (13, .sl 5 (a1.map Cell.enc) none)] [2, 3] (by kernel_rfl) (by kernel_rfl) ?_
  obtain ⟨v1, ht1, h⟩ := bs h
  refine AOps_callR _ [i64 a0, .sl 5 (a1.map Cell.enc) none] (tl_get rfl) rfl rfl rfl rfl Try.func44 (by decide) rfl ((.cons (D.le.refl _) (.cons (D.le.refl _) (.nil)))) (plain_right.ok _ a0 a1 _  _ ht1) ?_
  rintro _ S_ ⟨rfl, h2_⟩
  replace hh := hh.call0 h2_
  refine fg [0, 1, 14] ?_
  refine seg 1 [0, 1, 15] [(15, bo (!v1))] [] (by kernel_rfl) (by kernel_rfl) ?_
  refine zn ?_
  refine AT_condS (!v1) (by kernel_rfl) (fun hc1 => ?_) (fun hc1 => ?_)
  · rw [if_t hc1] at h
    refine zsr ?_
    refine seg 2 [4, 5] [(4, nilS), (5, bo false)] [] (by kernel_rfl) (by kernel_rfl) ?_
    refine zn ?_
    refine AT_ret ?_
    refine athen_r ?_
    have e0_ : [] = r0 := congrArg (fun p_ => p_.1) (Option.some.inj h)
    have e1_ : false = r1 := congrArg (fun p_ => p_.2) (Option.some.inj h)
    subst e0_
    subst e1_
    exact ⟨[nilS, bo false], _, S_, (.of (by kernel_rfl)), (tup_le (.cons (nil_le) (.cons (D.le.refl _) (.nil)))), Store.le.refl _, rfl, hh⟩
  rw [if_f hc1] at h
  refine zkn ?_
  refine AT_seq ?_
  refine zsr ?_
  refine seg 2 [0, 1, 17] [(17, bo (a0 == 1))] [] (by kernel_rfl) (by kernel_rfl) ?_
  refine zn ?_
  refine AT_condR (a0 == 1) (by kernel_rfl) (fun hc2 => ?_) (fun hc2 => ?_)
  · rw [if_f hc2] at h
    refine zkn ?_
    refine zsr ?_
    refine seg 1 [0, 1, 9] [(9, nilS)] [] (by kernel_rfl) (by kernel_rfl) ?_
    refine zn ?_
    refine AT_seq ?_
    refine zsr ?_
    refine seg 2 [0, 9, 39, 40] [(39, .sl 5 (a1.map Cell.enc) none), (40, i64 ((a1.map Cell.enc).length : Int))] [2] (by kernel_rfl) (by kernel_rfl) ?_
    refine tod 40 (i64 ((a1.map Cell.enc).length : Int)) (i64 (a1.length : Int)) (by kernel_rfl) (by rw [List.length_map]) ?_
    refine seg 1 [0, 9, 39, 40, 41] [(41, i64 0)] [] (by kernel_rfl) (by kernel_rfl) ?_
    refine zn ?_
    refine AT_block ?_
    refine AT_nilU 9 1 (fun tk_ => mkS 52 [(0, i64 a0), (9, .sl 1 [] (some tk_)), (39, .sl 5 (a1.map Cell.enc) none), (40, i64 (a1.length : Int)), (41, i64 0)]) (by kernel_rfl) (fun tk_ => by kernel_rfl) (fun S_ t1 hf_ u_ => ?_)
    replace hh := hh.tkN' hf_ u_ (n := (([] : List UInt8)).length) (by first | rfl | (simp [bytesD_len]; done) | (simp [bytesD_len]; omega))
    refine AT_loopM 0x38000000201 (fun k_ sl_ S_ => k_ ≤ k ∧ ∃ (x4 : (List UInt8)), ∃ (x5 : Int), ∃ (tk1 : Nat), LeL sl_ (mkS 52 [(0, i64 a0), (9, .sl 1 (x4.map eB) (some tk1)), (39, .sl 5 (a1.map Cell.enc) none), (40, i64 (a1.length : Int)), (41, i64 x5)]) ∧ plain_Encode.l1 k_ a0 a1 x4 x5 = some (r0, r1) ∧ Own S [] S_ [.t tk1 (x4).length 1]) k ⟨Nat.le_refl _, ([] : List UInt8), 0, t1, (le_rf (by kernel_rfl)), h, hh⟩ ?_
    clear hh h
    rintro k' sl_ S_ ⟨hk_, x4, x5, tk1, hl_, h, hh⟩
    refine AT_weaken hl_ ?_
    obtain _ | k3 := k'
    · cases h
    rw [plain_Encode.l1] at h
    refine zsr ?_
    refine seg 1 [0, 9, 39, 40, 41, 42] [(42, bo (decide (x5 < (a1.length : Int))))] [] (by kernel_rfl) (by kernel_rfl) ?_
    refine zn ?_
    refine AT_seq ?_
    refine AT_condR (decide (x5 < (a1.length : Int))) (by kernel_rfl) (fun hc5 => ?_) (fun hc5 => ?_)
    · rw [if_f hc5] at h
      refine AT_exit ?_
      refine athen_e ?_
      refine athen_e ?_
      refine ablock_h ?_
      refine athen_n ?_
      refine zsr ?_
      refine seg 3 [4, 5] [(4, .sl 1 (x4.map eB) (some tk1)), (5, bo true)] [] (by kernel_rfl) (by kernel_rfl) ?_
      refine zn ?_
      refine AT_ret ?_
      have e0_ : x4 = r0 := congrArg (fun p_ => p_.1) (Option.some.inj h)
      have e1_ : true = r1 := congrArg (fun p_ => p_.2) (Option.some.inj h)
      subst e0_
      subst e1_
      exact ⟨[.sl 1 (x4.map eB) (some tk1), bo true], _, S_, (.of (by kernel_rfl)), (tup_le (.cons (sl_le) (.cons (D.le.refl _) (.nil)))), Store.le.refl _, rfl, (hh.sub [] (by decide) (by kernel_rfl))⟩
    rw [if_t hc5] at h
    refine zkn ?_
    refine AT_seq ?_
    refine AT_block ?_
    refine zsr ?_
    obtain ⟨hi9, h⟩ := is h
    refine segc 1 [0, 9, 39, 40, 41, 43] [(43, .pt ((a1.map Cell.enc).getD (x5 : Int).toNat []))] (0 ≤ x5 ∧ x5 < ((a1.map Cell.enc).length : Int)) [1, 2, 3] (by kernel_rfl) (by kernel_rfl) (idx_ok hi9) ?_
    refine tod 43 (.pt ((a1.map Cell.enc).getD (x5 : Int).toNat [])) (.pt (Cell.enc (rd a1 x5 Cell.zero))) (by kernel_rfl) (by rw [pt_rd Cell.enc a1 x5 Cell.zero hi9.1 hi9.2]) ?_
    refine seg 1 [0, 9, 39, 40, 41, 44] [(44, .ag (Cell.enc (rd a1 x5 Cell.zero)))] [2, 3] (by kernel_rfl) (by kernel_rfl) ?_
    refine AOps_newvar (zs := [bo false, i64 0, str [], i64 0, i64 0]) (ds := (Cell.enc (rd a1 x5 Cell.zero))) (d := 11) (tl_get rfl) rfl rfl rfl (by kernel_rfl) (by kernel_rfl) (tl_get rfl) (fun _ => rfl) rfl rfl (fun _ => rfl) rfl (by kernel_rfl) (by kernel_rfl) ?_
    refine AOps_forget 0x38000000a01 (mkS 52 [(0, i64 a0), (9, .sl 1 (x4.map eB) (some tk1)), (11, .pt (Cell.enc (rd a1 x5 Cell.zero))), (39, .sl 5 (a1.map Cell.enc) none), (40, i64 (a1.length : Int)), (41, i64 x5)]) (by kernel_rfl) ?_
    refine znr ?_
    refine seg 3 [0, 39, 40, 41, 45, 46, 47] [(45, .sl 1 (x4.map eB) (some tk1)), (46, i64 a0), (47, .ag (Cell.enc (rd a1 x5 Cell.zero)))] [3, 4, 5] (by kernel_rfl) (by kernel_rfl) ?_
    obtain ⟨v4, ht3, h⟩ := bs h
    refine AOps_callR _ [.sl 1 (([] : List UInt8).map eB) none, i64 a0, .ag (Cell.enc (rd a1 x5 Cell.zero))] (tl_get rfl) rfl rfl rfl rfl Try.func46 (by decide) rfl ((.cons (nil_le) (.cons (D.le.refl _) (.cons (D.le.refl _) (.nil))))) (plain_put.ok _ ([] : List UInt8) a0 (rd a1 x5 Cell.zero) _  _ ht3) ?_
    rintro _ S_ ⟨t2, rfl, h2_⟩
    replace hh := hh.calln h2_
    refine fg [0, 39, 40, 41, 45, 48] ?_
    obtain ⟨hl1, h⟩ := is h
    refine AOps_appendU (bytes := 1) (es := x4.map eB) (xs := v4.map eB) (tl := (some t2)) (x4).length (tl_get rfl) rfl rfl rfl (by kernel_rfl) rfl (hh.tk 1 (by kernel_rfl)) (by simp only [List.length_map, List.length_cons, List.length_nil]) (.inl ⟨5, by kernel_rfl, rfl⟩) (by simp only [List.length_map, bytesD_len, List.length_cons, List.length_nil]; omega) (by simp only [List.length_map, bytesD_len, List.length_cons, List.length_nil]; omega) (fun S_ u_ => ?_)
    replace hh := hh.tkS' 1 (by kernel_rfl) u_ (n := (x4 ++ v4).length) (by first | rfl | (simp [bytesD_len]; done) | (simp [bytesD_len]; omega))
    refine fg [0, 39, 40, 41, 49] ?_
    refine tod 49 (.sl 1 ((x4.map eB) ++ (v4.map eB)) (some tk1)) (.sl 1 ((x4 ++ v4).map eB) (some tk1)) (by kernel_rfl) (by first | rw [List.map_append]; done | (simp only [List.map_append]; done) | (simp only [List.map_append]; rfl) | (rw [List.map_append]; rfl)) ?_
    refine seg 1 [0, 9, 39, 40, 41] [(9, .sl 1 ((x4 ++ v4).map eB) (some tk1))] [] (by kernel_rfl) (by kernel_rfl) ?_
    refine AOps_end ?_
    refine ablock_n ?_
    refine athen_n ?_
    refine AT_region ?_
    refine seg 2 [0, 9, 39, 40, 41] [(41, i64 (IntKind.wrap .i64 (x5 + 1)))] [] (by kernel_rfl) (by kernel_rfl) ?_
    refine zn ?_
    exact ⟨k3, (by omega), (by omega), x4 ++ v4, IntKind.wrap .i64 (x5 + 1), tk1, (le_rf (by kernel_rfl)), h, (hh.sub [1] (by decide) (by kernel_rfl))⟩
  rw [if_t hc2] at h
  refine zsr ?_
  refine seg 2 [1, 19] [(19, i64 ((a1.map Cell.enc).length : Int))] [2, 3] (by kernel_rfl) (by kernel_rfl) ?_
  refine tod 19 (i64 ((a1.map Cell.enc).length : Int)) (i64 (a1.length : Int)) (by kernel_rfl) (by rw [List.length_map]) ?_
  obtain ⟨hi2, h⟩ := is h
  refine AOps_makeRowI (kl := .i64) (kc := .i64) (.int .u64 0) 1 8 eU 0 (a1.length : Int) (tl_get rfl) rfl rfl rfl (by kernel_rfl) rfl (by kernel_rfl) rfl rfl rfl hi2 (fun S_ m1 hf_ u_ => ?_)
  replace hh := hh.obN hf_ u_
  have ln1 : (List.replicate (((a1.length : Int) : Int).toNat) (0 : Int)).length = ((a1.length : Int) : Int).toNat := rep_len _ _
  refine fg [1, 20] ?_
  refine seg 1 [1, 6] [(6, .vw m1 0 (((a1.length : Int) : Int).toNat) (((a1.length : Int) : Int).toNat))] [] (by kernel_rfl) (by kernel_rfl) ?_
  refine zn ?_
  refine AT_seq ?_
  refine zsr ?_
  refine AOps_seg 2 0x600040 (mkS 52 [(6, .vw m1 0 (((a1.length : Int) : Int).toNat) (((a1.length : Int) : Int).toNat)), (21, .sl 5 (a1.map Cell.enc) none), (22, i64 ((a1.map Cell.enc).length : Int))]) none [2] (by kernel_rfl) (by kernel_rfl) trivial ?_
  refine tod 22 (i64 ((a1.map Cell.enc).length : Int)) (i64 (a1.length : Int)) (by kernel_rfl) (by rw [List.length_map]) ?_
  refine seg 1 [6, 21, 22, 23] [(23, i64 0)] [] (by kernel_rfl) (by kernel_rfl) ?_
  refine zn ?_
  refine AT_block ?_
  refine AT_loopM 0xe00040 (fun k_ sl_ S_ => k_ ≤ k ∧ ∃ (x2 : Int), ∃ (x3 : (List Int)), LeL sl_ (mkS 52 [(6, .vw m1 0 (((a1.length : Int) : Int).toNat) (((a1.length : Int) : Int).toNat)), (21, .sl 5 (a1.map Cell.enc) none), (22, i64 (a1.length : Int)), (23, i64 x2)]) ∧ plain_Encode.l0 k_ a1 x2 x3 = some (r0, r1) ∧ Own S [] S_ [.o m1 (.cells 59 (rowC eU x3))] ∧ List.length x3 = ((a1.length : Int) : Int).toNat) k ⟨Nat.le_refl _, 0, List.replicate (((a1.length : Int) : Int).toNat) (0 : Int), (le_rf (by kernel_rfl)), h, hh, ln1⟩ ?_
  clear hh h
  rintro k' sl_ S_ ⟨hk_, x2, x3, hl_, h, hh, ln3⟩
  refine AT_weaken hl_ ?_
  obtain _ | k2 := k'
  · cases h
  rw [plain_Encode.l0] at h
  refine zsr ?_
  refine seg 1 [6, 21, 22, 23, 24] [(24, bo (decide (x2 < (a1.length : Int))))] [] (by kernel_rfl) (by kernel_rfl) ?_
  refine zn ?_
  refine AT_seq ?_
  refine AT_condR (decide (x2 < (a1.length : Int))) (by kernel_rfl) (fun hc4 => ?_) (fun hc4 => ?_)
  · rw [if_f hc4] at h
    refine AT_exit ?_
    refine athen_e ?_
    refine athen_e ?_
    refine ablock_h ?_
    refine athen_n ?_
    refine zsr ?_
    refine seg 1 [35] [(35, .vw m1 0 (((a1.length : Int) : Int).toNat) (((a1.length : Int) : Int).toNat))] [1, 2, 3, 4, 5] (by kernel_rfl) (by kernel_rfl) ?_
    refine AOps_forget 0x800000000 (mkS 52 [(35, .vw m1 0 (((a1.length : Int) : Int).toNat) (((a1.length : Int) : Int).toNat))]) (by kernel_rfl) ?_
    refine AOps_rowOut (m := 52) (ps := [(35, .vw m1 0 (((a1.length : Int) : Int).toNat) (((a1.length : Int) : Int).toNat))]) (ps' := [(35, .sl 1 (x3.map eU) none)]) (T := 59) (E := eU) (sz := 1) (r := x3) (hh.ob 0 (by kernel_rfl)) (fun _ => rfl) (.row ln3.symm (Nat.le_of_eq rfl) .nil) (fun S_ u_ => ?_)
    replace hh := hh.gone 0 (by kernel_rfl) u_ [] (by decide) rfl
    obtain ⟨⟨v2, v3⟩, ht2, h⟩ := bs h
    simp only at h
    refine AOps_callR _ [.sl 1 (x3.map eU) none, i64 1] (tl_get rfl) rfl rfl rfl rfl Try.func45 (by decide) rfl ((.cons (D.le.refl _) (.cons (D.le.refl _) (.nil)))) (bitpack_Pack.ok _ x3 1 _  _ _ ht2) ?_
    rintro _ S_ ⟨rfl, h2_⟩
    replace hh := hh.call0 h2_
    refine fg [36] ?_
    refine seg 4 [4, 5] [(4, .sl 1 (v2.map eB) none), (5, bo v3)] [] (by kernel_rfl) (by kernel_rfl) ?_
    refine zn ?_
    refine AT_ret ?_
    refine athen_r ?_
    have e0_ : v2 = r0 := congrArg (fun p_ => p_.1) (Option.some.inj h)
    have e1_ : v3 = r1 := congrArg (fun p_ => p_.2) (Option.some.inj h)
    subst e0_
    subst e1_
    exact ⟨[.sl 1 (v2.map eB) none, bo v3], _, S_, (.of (by kernel_rfl)), D.le.refl _, Store.le.refl _, rfl, hh⟩
  rw [if_t hc4] at h
  refine zkn ?_
  refine AT_seq ?_
  refine AT_block ?_
  refine zsr ?_
  obtain ⟨hi6, h⟩ := is h
  refine segc 2 [6, 21, 22, 23, 25, 26] [(25, i64 x2), (26, .pt ((a1.map Cell.enc).getD (x2 : Int).toNat []))] (0 ≤ x2 ∧ x2 < ((a1.map Cell.enc).length : Int)) [2, 3, 4, 5] (by kernel_rfl) (by kernel_rfl) (idx_ok hi6) ?_
  refine tod 26 (.pt ((a1.map Cell.enc).getD (x2 : Int).toNat [])) (.pt (Cell.enc (rd a1 x2 Cell.zero))) (by kernel_rfl) (by rw [pt_rd Cell.enc a1 x2 Cell.zero hi6.1 hi6.2]) ?_
  refine seg 1 [6, 21, 22, 23, 25, 27] [(27, .ag (Cell.enc (rd a1 x2 Cell.zero)))] [3, 4, 5] (by kernel_rfl) (by kernel_rfl) ?_
  refine AOps_allocV (ds := [bo false, i64 0, str [], i64 0, i64 0]) (cs' := [bo false, i64 0, str [], i64 0, i64 0]) (tl_get rfl) rfl rfl (by kernel_rfl) (LeL.refl _) (fun S_ m3 hf_ u_ => ?_)
  replace hh := hh.obN hf_ u_
  refine fg [6, 8, 21, 22, 23, 25, 27] ?_
  refine seg 1 [6, 7, 8, 21, 22, 23, 27] [(7, i64 x2)] [5] (by kernel_rfl) (by kernel_rfl) ?_
  refine AOps_putV (T := 40) (off := 0) (cs := [bo false, i64 0, str [], i64 0, i64 0]) (ds := (Cell.enc (rd a1 x2 Cell.zero))) (cs' := [bo ((rd a1 x2 Cell.zero).Null), i64 ((rd a1 x2 Cell.zero).Int), str ((rd a1 x2 Cell.zero).Text), i64 (((rd a1 x2 Cell.zero).At).X), i64 (((rd a1 x2 Cell.zero).At).Y)]) (tl_get rfl) rfl rfl rfl (hh.ob 1 (by kernel_rfl)) rfl (by kernel_rfl) (Nat.le_of_ble_eq_true rfl) (LeL.refl _) (fun S_ u_ => ?_)
  replace hh := hh.obS' 1 (by kernel_rfl) u_
  refine fg0 [6, 7, 8, 21, 22, 23] ?_
  refine znr ?_
  refine seg 3 [6, 21, 22, 23, 28, 29, 30] [(28, .vw m1 0 (((a1.length : Int) : Int).toNat) (((a1.length : Int) : Int).toNat)), (29, i64 x2), (30, .ob m3 1)] [3, 4, 5, 6] (by kernel_rfl) (by kernel_rfl) ?_
  refine AOps_load (T := 40) (off := 1) (cs := [bo ((rd a1 x2 Cell.zero).Null), i64 ((rd a1 x2 Cell.zero).Int), str ((rd a1 x2 Cell.zero).Text), i64 (((rd a1 x2 Cell.zero).At).X), i64 (((rd a1 x2 Cell.zero).At).Y)]) (i64 ((rd a1 x2 Cell.zero).Int)) (tl_get rfl) rfl rfl rfl (hh.ob 1 (by kernel_rfl)) (.inr ⟨by kernel_rfl, by kernel_rfl⟩) ?_
  refine fg [6, 21, 22, 23, 28, 29, 31] ?_
  obtain ⟨hi7, h⟩ := is h
  refine AOps_seg 2 0x300e00040 (mkS 52 [(6, .vw m1 0 (((a1.length : Int) : Int).toNat) (((a1.length : Int) : Int).toNat)), (21, .sl 5 (a1.map Cell.enc) none), (22, i64 (a1.length : Int)), (23, i64 x2), (32, u64 (IntKind.wrap .u64 ((rd a1 x2 Cell.zero).Int))), (33, .ob m1 (0 + (x2 : Int).toNat * 1))]) (some (0 ≤ x2 ∧ x2 < ((((a1.length : Int) : Int).toNat : Nat) : Int))) [6] (by kernel_rfl) (by kernel_rfl) (hi7) ?_
  refine AOps_rowPut (E := eU) (sz := 1) (r := x3) (T := 59) (ds := [u64 (IntKind.wrap .u64 ((rd a1 x2 Cell.zero).Int))]) x2 0 0 (IntKind.wrap .u64 ((rd a1 x2 Cell.zero).Int)) (tl_get rfl) rfl rfl rfl (hh.ob 0 (by kernel_rfl)) (fun _ => rfl) (by omega) (by have := ln3; omega) rfl (by kernel_rfl) (Nat.le_of_ble_eq_true rfl) rfl (fun S_ u_ => ?_)
  replace hh := hh.obS' 0 (by kernel_rfl) u_
  have ln4 : (setI x3 x2 (IntKind.wrap .u64 ((rd a1 x2 Cell.zero).Int))).length = ((a1.length : Int) : Int).toNat := setI_len _ _ ln3
  refine fg0 [6, 21, 22, 23] ?_
  refine AOps_end ?_
  refine ablock_n ?_
  refine athen_n ?_
  refine AT_region ?_
  refine seg 2 [6, 21, 22, 23] [(23, i64 (IntKind.wrap .i64 (x2 + 1)))] [] (by kernel_rfl) (by kernel_rfl) ?_
  refine zn ?_
  exact ⟨k2, (by omega), (by omega), IntKind.wrap .i64 (x2 + 1), setI x3 x2 (IntKind.wrap .u64 ((rd a1 x2 Cell.zero).Int)), (le_rf (by kernel_rfl)), h, (hh.sub [0] (by decide) (by kernel_rfl)), ln4⟩
def stat_Put.f (k : Nat) (a0 : (List UInt8)) (a1 : Int) (a2 : Stat) : Option ((List UInt8)) := (stat_Right.f k a1 a2).bind fun v1 => (if (!v1) = true then ((slices_Clone_byte.f a0).bind fun v2 => (some v2)) else ((varint_Put.f k a0 (IntKind.wrap .u64 a2.Nulls)).bind fun v3 => (if (!a2.Has) = true then (if (v3.length + 1) * 1 ≤ 140737488355328 then (some (v3 ++ ([0] : List UInt8))) else none) else ((plain_Encode.f k a1 ([a2.Min, a2.Max] : List Cell)).bind fun q_v4 => (if (v3.length + 1) * 1 ≤ 140737488355328 then ((varint_Put.f k (v3 ++ ([1] : List UInt8)) (IntKind.wrap .u64 (q_v4.1.length : Int))).bind fun v6 => (if (v6.length + q_v4.1.length) * 1 ≤ 140737488355328 then (some (v6 ++ q_v4.1)) else none)) else none)))))
theorem stat_Put.mono (k : Nat) (a0 : (List UInt8)) (a1 : Int) (a2 : Stat) : LeO (stat_Put.f k a0 a1 a2) (stat_Put.f (k + 1) a0 a1 a2) := by
  unfold stat_Put.f
  repeat' first
    | exact LeO.refl _
    | exact LeO.none _
    | exact plain_Encode.mono _ _ _
    | exact stat_Right.mono _ _ _
    | exact varint_Put.mono _ _ _
    | refine LeO.ite ?_ ?_
    | refine LeO.bind ?_ (fun _ => ?_)
theorem stat_Put.ok (k : Nat) (a0 : (List UInt8)) (a1 : Int) (a2 : Stat) (S : Store) (r : (List UInt8)) (h : stat_Put.f k a0 a1 a2 = some r) : ACalls Try.prog 18 [.sl 1 (a0.map eB) none, i64 a1, .ag (Stat.enc a2)] S (fun r_ S_ => ∃ (u0 : Nat), r_ = .sl 1 (r.map eB) (some u0) ∧ Own S [] S_ [.t u0 (r).length 1]) := by
  unfold stat_Put.f at h
  refine acalls_of Try.func18 rfl ?_
  have hh := Own.nil (S := S)
  refine AT_forget 0x7 (mkS 45 [(0, .sl 1 (a0.map eB) none), (1, i64 a1), (2, .ag (Stat.enc a2))]) (by kernel_rfl) ?_
  refine zsr ?_
  refine AOps_box_im (ds := (Stat.enc a2)) (tl_get rfl) rfl rfl (by kernel_rfl) ?_
  refine fg [0, 1, 5] ?_
  refine seg 1 [0, 1, 5] [] [] (by kernel_rfl) (by kernel_rfl) ?_
  refine zn ?_
  refine AT_seq ?_
  refine zsr ?_
  refine seg 2 [0, 1, 5, 9, 10] [(9, i64 a1), (10, .ag (Stat.enc a2))] [2, 3] (by kernel_rfl) (by kernel_rfl) ?_
  obtain ⟨v1, ht1, h⟩ := bs h
  refine AOps_callR _ [i64 a1, .ag (Stat.enc a2)] (tl_get rfl) rfl rfl rfl rfl Try.func32 (by decide) rfl ((.cons (D.le.refl _) (.cons (D.le.refl _) (.nil)))) (stat_Right.ok _ a1 a2 _  _ ht1) ?_
  rintro _ S_ ⟨rfl, h2_⟩
  replace hh := hh.call0 h2_
  refine fg [0, 1, 5, 11] ?_
  refine seg 1 [0, 1, 5, 12] [(12, bo (!v1))] [] (by kernel_rfl) (by kernel_rfl) ?_
  refine zn ?_
  refine AT_condS (!v1) (by kernel_rfl) (fun hc1 => ?_) (fun hc1 => ?_)
  · rw [if_t hc1] at h
    refine zsr ?_
    refine seg 1 [13] [(13, .sl 1 (a0.map eB) none)] [1, 2] (by kernel_rfl) (by kernel_rfl) ?_
    obtain ⟨v2, ht2, h⟩ := bs h
    refine AOps_callR _ [.sl 1 (a0.map eB) none] (tl_get rfl) rfl rfl rfl rfl Try.func29 (by decide) rfl ((.cons (D.le.refl _) (.nil))) (slices_Clone_byte.ok a0 _  _ ht2) ?_
    rintro _ S_ ⟨t1, rfl, h2_⟩
    replace hh := hh.calln h2_
    refine fg [14] ?_
    refine seg 1 [6] [(6, .sl 1 (v2.map eB) (some t1))] [] (by kernel_rfl) (by kernel_rfl) ?_
    refine zn ?_
    refine AT_ret ?_
    refine athen_r ?_
    have e_ := Option.some.inj h
    subst e_
    exact ⟨[.sl 1 (v2.map eB) (some t1)], _, S_, (.of (by kernel_rfl)), D.le.refl _, Store.le.refl _, t1, rfl, hh⟩
  rw [if_f hc1] at h
  refine zkn ?_
  refine zsr ?_
  refine seg 4 [1, 5, 15, 18] [(15, .sl 1 (a0.map eB) none), (18, u64 (IntKind.wrap .u64 a2.Nulls))] [4, 5] (by kernel_rfl) (by kernel_rfl) ?_
  obtain ⟨v3, ht3, h⟩ := bs h
  refine AOps_callR _ [.sl 1 (a0.map eB) none, u64 (IntKind.wrap .u64 a2.Nulls)] (tl_get rfl) rfl rfl rfl rfl Try.func17 (by decide) rfl ((.cons (D.le.refl _) (.cons (D.le.refl _) (.nil)))) (varint_Put.ok _ a0 (IntKind.wrap .u64 a2.Nulls) _  _ ht3) ?_
  rintro _ S_ ⟨t2, rfl, h2_⟩
  replace hh := hh.calln h2_
  refine fg [1, 5, 19] ?_
  refine seg 1 [0, 1, 5] [(0, .sl 1 (v3.map eB) (some t2))] [] (by kernel_rfl) (by kernel_rfl) ?_
  refine zn ?_
  refine AT_seq ?_
  refine zsr ?_
  refine AOps_seg 3 0x400023 (mkS 45 [(0, .sl 1 (v3.map eB) (some t2)), (1, i64 a1), (5, .pt (Stat.enc a2)), (22, bo (!a2.Has))]) none [] (by kernel_rfl) (by kernel_rfl) trivial ?_
  refine zn ?_
  refine AT_condS (!a2.Has) (by kernel_rfl) (fun hc2 => ?_) (fun hc2 => ?_)
  · rw [if_t hc2] at h
    refine zsr ?_
    refine seg 1 [23] [(23, .sl 1 (v3.map eB) (some t2))] [1, 2, 3] (by kernel_rfl) (by kernel_rfl) ?_
    refine AOps_litU (sz := 1) (es := [[u8 0]]) (tl_get rfl) rfl rfl rfl (by kernel_rfl) (by decide) (by kernel_rfl) (by decide) (by kernel_rfl) (by kernel_rfl) (by intro x hx; simp only [List.mem_cons, List.not_mem_nil, or_false] at hx; rcases hx with rfl <;> rfl) (fun S_ t3 hf_ u_ => ?_)
    replace hh := hh.tkN' hf_ u_ (n := (([0] : List UInt8)).length) (by first | rfl | (simp [bytesD_len]; done) | (simp [bytesD_len]; omega))
    refine fg [23, 24] ?_
    obtain ⟨hl1, h⟩ := is h
    refine AOps_appendU (bytes := 1) (es := v3.map eB) (xs := [[u8 0]]) (tl := (some t3)) (v3).length (tl_get rfl) rfl rfl rfl (by kernel_rfl) rfl (hh.tk 0 (by kernel_rfl)) (by simp only [List.length_map, List.length_cons, List.length_nil]) (.inl ⟨5, by kernel_rfl, rfl⟩) (by simp only [List.length_map, bytesD_len, List.length_cons, List.length_nil]; omega) (by simp only [List.length_map, bytesD_len, List.length_cons, List.length_nil]; omega) (fun S_ u_ => ?_)
    replace hh := hh.tkS' 0 (by kernel_rfl) u_ (n := (v3 ++ ([0] : List UInt8)).length) (by first | rfl | (simp [bytesD_len]; done) | (simp [bytesD_len]; omega))
    refine fg [25] ?_
    refine tod 25 (.sl 1 ((v3.map eB) ++ [[u8 0]]) (some t2)) (.sl 1 ((v3 ++ ([0] : List UInt8)).map eB) (some t2)) (by kernel_rfl) (by first | rw [List.map_append]; done | (simp only [List.map_append]; done) | (simp only [List.map_append]; rfl) | (rw [List.map_append]; rfl)) ?_
    refine seg 1 [6] [(6, .sl 1 ((v3 ++ ([0] : List UInt8)).map eB) (some t2))] [] (by kernel_rfl) (by kernel_rfl) ?_
    refine zn ?_
    refine AT_ret ?_
    refine athen_r ?_
    have e_ := Option.some.inj h
    subst e_
    exact ⟨[.sl 1 ((v3 ++ ([0] : List UInt8)).map eB) (some t2)], _, S_, (.of (by kernel_rfl)), D.le.refl _, Store.le.refl _, t2, rfl, (hh.sub [0] (by decide) (by kernel_rfl))⟩
  rw [if_f hc2] at h
  refine zkn ?_
  refine zsr ?_
  refine seg 5 [0, 27, 29, 31] [(27, i64 a1), (29, .ag (Cell.enc a2.Min)), (31, .ag (Cell.enc a2.Max))] [5, 6, 7, 8, 9, 10, 11] (by kernel_rfl) (by kernel_rfl) ?_
  refine AOps_litU (sz := 5) (es := [(Cell.enc a2.Min), (Cell.enc a2.Max)]) (tl_get rfl) rfl rfl rfl (by kernel_rfl) (by decide) (by kernel_rfl) (by decide) (by kernel_rfl) (by kernel_rfl) (by intro x hx; simp only [List.mem_cons, List.not_mem_nil, or_false] at hx; rcases hx with rfl | rfl <;> rfl) (fun S_ t4 hf_ u_ => ?_)
  replace hh := hh.tkN' hf_ u_ (n := (([a2.Min, a2.Max] : List Cell)).length) (by first | rfl | (simp [bytesD_len]; done) | (simp [bytesD_len]; omega))
  refine fg [0, 27, 32] ?_
  obtain ⟨⟨v4, v5⟩, ht4, h⟩ := bs h
  simp only at h
  refine AOps_callR _ [i64 a1, .sl 5 (([a2.Min, a2.Max] : List Cell).map Cell.enc) none] (tl_get rfl) rfl rfl rfl rfl Try.func33 (by decide) rfl ((.cons (D.le.refl _) (.cons (sl_le) (.nil)))) (plain_Encode.ok _ a1 ([a2.Min, a2.Max] : List Cell) _  _ _ ht4) ?_
  rintro _ S_ ⟨rfl, h2_⟩
  replace hh := hh.call0 h2_
  refine fg [0, 33] ?_
  refine seg 5 [0, 7] [(7, .sl 1 (v4.map eB) none)] [] (by kernel_rfl) (by kernel_rfl) ?_
  refine znsr ?_
  refine seg 1 [7, 36] [(36, .sl 1 (v3.map eB) (some t2))] [1, 2, 3, 4, 5, 6, 7, 8, 9] (by kernel_rfl) (by kernel_rfl) ?_
  refine AOps_litU (sz := 1) (es := [[u8 1]]) (tl_get rfl) rfl rfl rfl (by kernel_rfl) (by decide) (by kernel_rfl) (by decide) (by kernel_rfl) (by kernel_rfl) (by intro x hx; simp only [List.mem_cons, List.not_mem_nil, or_false] at hx; rcases hx with rfl <;> rfl) (fun S_ t5 hf_ u_ => ?_)
  replace hh := hh.tkN' hf_ u_ (n := (([1] : List UInt8)).length) (by first | rfl | (simp [bytesD_len]; done) | (simp [bytesD_len]; omega))
  refine fg [7, 36, 37] ?_
  obtain ⟨hl2, h⟩ := is h
  refine AOps_appendU (bytes := 1) (es := v3.map eB) (xs := [[u8 1]]) (tl := (some t5)) (v3).length (tl_get rfl) rfl rfl rfl (by kernel_rfl) rfl (hh.tk 0 (by kernel_rfl)) (by simp only [List.length_map, List.length_cons, List.length_nil]) (.inl ⟨5, by kernel_rfl, rfl⟩) (by simp only [List.length_map, bytesD_len, List.length_cons, List.length_nil]; omega) (by simp only [List.length_map, bytesD_len, List.length_cons, List.length_nil]; omega) (fun S_ u_ => ?_)
  replace hh := hh.tkS' 0 (by kernel_rfl) u_ (n := (v3 ++ ([1] : List UInt8)).length) (by first | rfl | (simp [bytesD_len]; done) | (simp [bytesD_len]; omega))
  refine fg [7, 38] ?_
  refine tod 38 (.sl 1 ((v3.map eB) ++ [[u8 1]]) (some t2)) (.sl 1 ((v3 ++ ([1] : List UInt8)).map eB) (some t2)) (by kernel_rfl) (by first | rw [List.map_append]; done | (simp only [List.map_append]; done) | (simp only [List.map_append]; rfl) | (rw [List.map_append]; rfl)) ?_
  refine seg 2 [7, 38, 40] [(40, i64 ((v4.map eB).length : Int))] [5, 6, 7, 8, 9] (by kernel_rfl) (by kernel_rfl) ?_
  refine tod 40 (i64 ((v4.map eB).length : Int)) (i64 (v4.length : Int)) (by kernel_rfl) (by rw [List.length_map]) ?_
  refine AOps_seg 1 0x24000000080 (mkS 45 [(7, .sl 1 (v4.map eB) none), (38, .sl 1 ((v3 ++ ([1] : List UInt8)).map eB) (some t2)), (41, u64 (IntKind.wrap .u64 (v4.length : Int)))]) none [6, 7, 8, 9] (by kernel_rfl) (by kernel_rfl) trivial ?_
  obtain ⟨v6, ht5, h⟩ := bs h
  refine AOps_callR _ [.sl 1 ((v3 ++ ([1] : List UInt8)).map eB) none, u64 (IntKind.wrap .u64 (v4.length : Int))] (tl_get rfl) rfl rfl rfl rfl Try.func17 (by decide) rfl ((.cons (sl_le) (.cons (D.le.refl _) (.nil)))) (varint_Put.ok _ (v3 ++ ([1] : List UInt8)) (IntKind.wrap .u64 (v4.length : Int)) _  _ ht5) ?_
  rintro _ S_ ⟨t6, rfl, h2_⟩
  replace hh := hh.calln h2_
  refine fg [7, 42] ?_
  refine seg 1 [42, 43] [(43, .sl 1 (v4.map eB) none)] [8, 9] (by kernel_rfl) (by kernel_rfl) ?_
  obtain ⟨hl3, h⟩ := is h
  refine AOps_appendU (bytes := 1) (es := v6.map eB) (xs := v4.map eB) (tl := none) (v6).length (tl_get rfl) rfl rfl rfl (by kernel_rfl) rfl (hh.tk 0 (by kernel_rfl)) (by simp only [List.length_map, List.length_cons, List.length_nil]) (.inl ⟨5, by kernel_rfl, rfl⟩) (by simp only [List.length_map, bytesD_len, List.length_cons, List.length_nil]; omega) (by simp only [List.length_map, bytesD_len, List.length_cons, List.length_nil]; omega) (fun S_ u_ => ?_)
  replace hh := hh.tkS' 0 (by kernel_rfl) u_ (n := (v6 ++ v4).length) (by first | rfl | (simp [bytesD_len]; done) | (simp [bytesD_len]; omega))
  refine fg [44] ?_
  refine tod 44 (.sl 1 ((v6.map eB) ++ (v4.map eB)) (some t6)) (.sl 1 ((v6 ++ v4).map eB) (some t6)) (by kernel_rfl) (by first | rw [List.map_append]; done | (simp only [List.map_append]; done) | (simp only [List.map_append]; rfl) | (rw [List.map_append]; rfl)) ?_
  refine seg 1 [6] [(6, .sl 1 ((v6 ++ v4).map eB) (some t6))] [] (by kernel_rfl) (by kernel_rfl) ?_
  refine zn ?_
  refine AT_ret ?_
  have e_ := Option.some.inj h
  subst e_
  exact ⟨[.sl 1 ((v6 ++ v4).map eB) (some t6)], _, S_, (.of (by kernel_rfl)), D.le.refl _, Store.le.refl _, t6, rfl, (hh.sub [0] (by decide) (by kernel_rfl))⟩
def footer_Encode_c1_s0.f (k : Nat) (a0 : Int) (a1 : (List UInt8)) : Option ((List UInt8)) := (varint_Put.f k a1 (IntKind.wrap .u64 a0)).bind fun v1 => (some v1)
theorem footer_Encode_c1_s0.mono (k : Nat) (a0 : Int) (a1 : (List UInt8)) : LeO (footer_Encode_c1_s0.f k a0 a1) (footer_Encode_c1_s0.f (k + 1) a0 a1) := by
  unfold footer_Encode_c1_s0.f
  repeat' first
    | exact LeO.refl _
    | exact LeO.none _
    | exact varint_Put.mono _ _ _
    | refine LeO.ite ?_ ?_
    | refine LeO.bind ?_ (fun _ => ?_)
theorem footer_Encode_c1_s0.ok (k : Nat) (a0 : Int) (a1 : (List UInt8)) (S : Store) (B : List (Bool × Nat)) (b0 t0 : Nat) (hh : Own S B S [.o b0 (.cells 47 [.sl 1 (a1.map eB) (some t0)]), .t t0 (a1).length 1]) (r : (List UInt8)) (h : footer_Encode_c1_s0.f k a0 a1 = some r) : ACalls Try.prog 16 [i64 a0, .ob b0 0] S (fun r_ S_ => ∃ (u0 : Nat), r_ = .tup [] ∧ Own S B S_ [.o b0 (.cells 47 [.sl 1 (r.map eB) (some u0)]), .t u0 (r).length 1]) := by
  unfold footer_Encode_c1_s0.f at h
  refine acalls_of Try.func16 rfl ?_
  refine AT_forget 0x3 (mkS 7 [(0, i64 a0), (1, .ob b0 0)]) (by kernel_rfl) ?_
  refine AT_region ?_
  refine AOps_load (T := 47) (off := 0) (cs := [.sl 1 (a1.map eB) (some t0)]) (.sl 1 (a1.map eB) (some t0)) (tl_get rfl) rfl rfl rfl (hh.ob 0 (by kernel_rfl)) (.inr ⟨by kernel_rfl, by kernel_rfl⟩) ?_
  refine fg [0, 1, 3] ?_
  refine seg 2 [1, 3, 5] [(5, u64 (IntKind.wrap .u64 a0))] [3, 4] (by kernel_rfl) (by kernel_rfl) ?_
  obtain ⟨v1, ht1, h⟩ := bs h
  refine AOps_callR _ [.sl 1 (a1.map eB) none, u64 (IntKind.wrap .u64 a0)] (tl_get rfl) rfl rfl rfl rfl Try.func17 (by decide) rfl ((.cons (sl_le) (.cons (D.le.refl _) (.nil)))) (varint_Put.ok _ a1 (IntKind.wrap .u64 a0) _  _ ht1) ?_
  rintro _ S_ ⟨t1, rfl, h2_⟩
  replace hh := hh.calln h2_
  refine fg [1, 6] ?_
  refine AOps_putV (T := 47) (off := 0) (cs := [.sl 1 (a1.map eB) (some t0)]) (ds := [.sl 1 (v1.map eB) (some t1)]) (cs' := [.sl 1 (v1.map eB) (some t1)]) (tl_get rfl) rfl rfl rfl (hh.ob 1 (by kernel_rfl)) rfl (by kernel_rfl) (Nat.le_of_ble_eq_true rfl) (LeL.refl _) (fun S_ u_ => ?_)
  replace hh := hh.obS' 1 (by kernel_rfl) u_
  refine fg0 [] ?_
  refine AOps_end ?_
  have e_ := Option.some.inj h
  subst e_
  exact ⟨[], _, S_, (.of (by kernel_rfl)), D.le.refl _, Store.le.refl _, t1, rfl, (hh.sub [1, 0] (by decide) (by kernel_rfl))⟩
end Go.Proofs.Ytfaojkajlpojlaa.Abs
