/- What functions of the program compute, each with the proof that it does (printed by wip/gen/all2.py). -/
import Derived.Test.YtfaojkajlpojlaaV12
import Derived.KernelRfl
namespace Go.Proofs.Ytfaojkajlpojlaa.Abs
open Go
set_option maxRecDepth 100000
mutual
def ref19_Same.l2 : Nat → Footer → Footer → Int → Int → Int → Option (Bool)
  | 0, _, _, _, _, _ => none
  | k + 1, a0, a1, x1, x2, x3 => if 0 ≤ x2 ∧ x2 < (((rd a0.Groups x1 Group.zero).Chunks).length : Int) then (if (decide (x3 < ((rd ((rd a0.Groups x1 Group.zero).Chunks) x2 []).length : Int))) = true then (if 0 ≤ x2 ∧ x2 < (((rd a0.Groups x1 Group.zero).Chunks).length : Int) then (if 0 ≤ x3 ∧ x3 < ((rd ((rd a0.Groups x1 Group.zero).Chunks) x2 []).length : Int) then (if 0 ≤ x2 ∧ x2 < (((rd a1.Groups x1 Group.zero).Chunks).length : Int) then (if 0 ≤ x3 ∧ x3 < ((rd ((rd a1.Groups x1 Group.zero).Chunks) x2 []).length : Int) then (if (!((((rd (rd ((rd a0.Groups x1 Group.zero).Chunks) x2 []) x3 PageInfo.zero).Size) == ((rd (rd ((rd a1.Groups x1 Group.zero).Chunks) x2 []) x3 PageInfo.zero).Size)) && ((((rd (rd ((rd a0.Groups x1 Group.zero).Chunks) x2 []) x3 PageInfo.zero).Rows) == ((rd (rd ((rd a1.Groups x1 Group.zero).Chunks) x2 []) x3 PageInfo.zero).Rows)) && ((((((rd (rd ((rd a0.Groups x1 Group.zero).Chunks) x2 []) x3 PageInfo.zero).Stat).Nulls) == (((rd (rd ((rd a1.Groups x1 Group.zero).Chunks) x2 []) x3 PageInfo.zero).Stat).Nulls)) && (((((rd (rd ((rd a0.Groups x1 Group.zero).Chunks) x2 []) x3 PageInfo.zero).Stat).Has) == (((rd (rd ((rd a1.Groups x1 Group.zero).Chunks) x2 []) x3 PageInfo.zero).Stat).Has)) && (((((((rd (rd ((rd a0.Groups x1 Group.zero).Chunks) x2 []) x3 PageInfo.zero).Stat).Min).Null) == ((((rd (rd ((rd a1.Groups x1 Group.zero).Chunks) x2 []) x3 PageInfo.zero).Stat).Min).Null)) && ((((((rd (rd ((rd a0.Groups x1 Group.zero).Chunks) x2 []) x3 PageInfo.zero).Stat).Min).Int) == ((((rd (rd ((rd a1.Groups x1 Group.zero).Chunks) x2 []) x3 PageInfo.zero).Stat).Min).Int)) && ((((((rd (rd ((rd a0.Groups x1 Group.zero).Chunks) x2 []) x3 PageInfo.zero).Stat).Min).Text) == ((((rd (rd ((rd a1.Groups x1 Group.zero).Chunks) x2 []) x3 PageInfo.zero).Stat).Min).Text)) && ((((((((rd (rd ((rd a0.Groups x1 Group.zero).Chunks) x2 []) x3 PageInfo.zero).Stat).Min).At).X) == (((((rd (rd ((rd a1.Groups x1 Group.zero).Chunks) x2 []) x3 PageInfo.zero).Stat).Min).At).X)) && (((((((rd (rd ((rd a0.Groups x1 Group.zero).Chunks) x2 []) x3 PageInfo.zero).Stat).Min).At).Y) == (((((rd (rd ((rd a1.Groups x1 Group.zero).Chunks) x2 []) x3 PageInfo.zero).Stat).Min).At).Y)) && true)) && true)))) && (((((((rd (rd ((rd a0.Groups x1 Group.zero).Chunks) x2 []) x3 PageInfo.zero).Stat).Max).Null) == ((((rd (rd ((rd a1.Groups x1 Group.zero).Chunks) x2 []) x3 PageInfo.zero).Stat).Max).Null)) && ((((((rd (rd ((rd a0.Groups x1 Group.zero).Chunks) x2 []) x3 PageInfo.zero).Stat).Max).Int) == ((((rd (rd ((rd a1.Groups x1 Group.zero).Chunks) x2 []) x3 PageInfo.zero).Stat).Max).Int)) && ((((((rd (rd ((rd a0.Groups x1 Group.zero).Chunks) x2 []) x3 PageInfo.zero).Stat).Max).Text) == ((((rd (rd ((rd a1.Groups x1 Group.zero).Chunks) x2 []) x3 PageInfo.zero).Stat).Max).Text)) && ((((((((rd (rd ((rd a0.Groups x1 Group.zero).Chunks) x2 []) x3 PageInfo.zero).Stat).Max).At).X) == (((((rd (rd ((rd a1.Groups x1 Group.zero).Chunks) x2 []) x3 PageInfo.zero).Stat).Max).At).X)) && (((((((rd (rd ((rd a0.Groups x1 Group.zero).Chunks) x2 []) x3 PageInfo.zero).Stat).Max).At).Y) == (((((rd (rd ((rd a1.Groups x1 Group.zero).Chunks) x2 []) x3 PageInfo.zero).Stat).Max).At).Y)) && true)) && true)))) && true)))) && true)))) = true then (some false) else (ref19_Same.l2 k a0 a1 x1 x2 (IntKind.wrap .i64 (x3 + 1)))) else none) else none) else none) else none) else (ref19_Same.l1 k a0 a1 x1 (IntKind.wrap .i64 (x2 + 1)))) else none
def ref19_Same.l1 : Nat → Footer → Footer → Int → Int → Option (Bool)
  | 0, _, _, _, _ => none
  | k + 1, a0, a1, x1, x2 => if (decide (x2 < (((rd a0.Groups x1 Group.zero).Chunks).length : Int))) = true then (if 0 ≤ x2 ∧ x2 < (((rd a0.Groups x1 Group.zero).Chunks).length : Int) then (if 0 ≤ x2 ∧ x2 < (((rd a1.Groups x1 Group.zero).Chunks).length : Int) then (if (((rd ((rd a0.Groups x1 Group.zero).Chunks) x2 []).length : Int) != ((rd ((rd a1.Groups x1 Group.zero).Chunks) x2 []).length : Int)) = true then (some false) else (ref19_Same.l2 k a0 a1 x1 x2 0)) else none) else none) else (ref19_Same.l0 k a0 a1 (IntKind.wrap .i64 (x1 + 1)))
def ref19_Same.l0 : Nat → Footer → Footer → Int → Option (Bool)
  | 0, _, _, _ => none
  | k + 1, a0, a1, x1 => if (decide (x1 < (a0.Groups.length : Int))) = true then (if 0 ≤ x1 ∧ x1 < (a0.Groups.length : Int) then (if 0 ≤ x1 ∧ x1 < (a1.Groups.length : Int) then (if (((rd a0.Groups x1 Group.zero).Rows) != ((rd a1.Groups x1 Group.zero).Rows)) = true then (some false) else (if ((((rd a0.Groups x1 Group.zero).Chunks).length : Int) != (((rd a1.Groups x1 Group.zero).Chunks).length : Int)) = true then (some false) else (ref19_Same.l1 k a0 a1 x1 0))) else none) else none) else (some true)
end
def ref19_Same.f (k : Nat) (a0 : Footer) (a1 : Footer) : Option (Bool) := if (a0.Rows != a1.Rows) = true then (some false) else (if ((a0.Groups.length : Int) != (a1.Groups.length : Int)) = true then (some false) else ((ref07_Schema.f k a0.Cols a1.Cols).bind fun v2 => (if (!v2) = true then (some false) else (ref19_Same.l0 k a0 a1 0))))
theorem ref19_Same.mono_l : ∀ k, (∀ y0 y1 y2 y3 y4, LeO (ref19_Same.l2 k y0 y1 y2 y3 y4) (ref19_Same.l2 (k + 1) y0 y1 y2 y3 y4)) ∧ (∀ y0 y1 y2 y3, LeO (ref19_Same.l1 k y0 y1 y2 y3) (ref19_Same.l1 (k + 1) y0 y1 y2 y3)) ∧ (∀ y0 y1 y2, LeO (ref19_Same.l0 k y0 y1 y2) (ref19_Same.l0 (k + 1) y0 y1 y2))
  | 0 => ⟨fun _ _ _ _ _ r h => (by simp only [ref19_Same.l2] at h; cases h), fun _ _ _ _ r h => (by simp only [ref19_Same.l1] at h; cases h), fun _ _ _ r h => (by simp only [ref19_Same.l0] at h; cases h)⟩
  | k + 1 => by
    have ih := ref19_Same.mono_l k
    refine ⟨?_, ?_, ?_⟩
    · intro y0 y1 y2 y3 y4
      rw [ref19_Same.l2, ref19_Same.l2]
      repeat' first
        | exact LeO.refl _
        | exact LeO.none _
        | exact ih.1 _ _ _ _ _
        | exact ih.2.1 _ _ _ _
        | exact ih.2.2 _ _ _
        | exact ref07_Schema.mono _ _ _
        | refine LeO.ite ?_ ?_
        | refine LeO.bind ?_ (fun _ => ?_)
    · intro y0 y1 y2 y3
      rw [ref19_Same.l1, ref19_Same.l1]
      repeat' first
        | exact LeO.refl _
        | exact LeO.none _
        | exact ih.1 _ _ _ _ _
        | exact ih.2.1 _ _ _ _
        | exact ih.2.2 _ _ _
        | exact ref07_Schema.mono _ _ _
        | refine LeO.ite ?_ ?_
        | refine LeO.bind ?_ (fun _ => ?_)
    · intro y0 y1 y2
      rw [ref19_Same.l0, ref19_Same.l0]
      repeat' first
        | exact LeO.refl _
        | exact LeO.none _
        | exact ih.1 _ _ _ _ _
        | exact ih.2.1 _ _ _ _
        | exact ih.2.2 _ _ _
        | exact ref07_Schema.mono _ _ _
        | refine LeO.ite ?_ ?_
        | refine LeO.bind ?_ (fun _ => ?_)
theorem ref19_Same.mono (k : Nat) (a0 : Footer) (a1 : Footer) : LeO (ref19_Same.f k a0 a1) (ref19_Same.f (k + 1) a0 a1) := by
  unfold ref19_Same.f
  repeat' first
    | exact LeO.refl _
    | exact LeO.none _
    | exact (ref19_Same.mono_l k).1 _ _ _ _ _
    | exact (ref19_Same.mono_l k).2.1 _ _ _ _
    | exact (ref19_Same.mono_l k).2.2 _ _ _
    | exact ref07_Schema.mono _ _ _
    | refine LeO.ite ?_ ?_
    | refine LeO.bind ?_ (fun _ => ?_)
theorem ref19_Same.ok (k : Nat) (a0 : Footer) (a1 : Footer) (S : Store) (r : Bool) (h : ref19_Same.f k a0 a1 = some r) : ACalls Try.prog 11 [.ag (Footer.enc a0), .ag (Footer.enc a1)] S (fun r_ S_ => r_ = bo r ∧ Own S [] S_ []) := by
  unfold ref19_Same.f at h
  refine acalls_of Try.func11 rfl ?_
  have hh := Own.nil (S := S)
  refine AT_forget 0x3 (mkS 110 [(0, .ag (Footer.enc a0)), (1, .ag (Footer.enc a1))]) (by kernel_rfl) ?_
  refine zsr ?_
  refine AOps_box_im (ds := (Footer.enc a0)) (tl_get rfl) rfl rfl (by kernel_rfl) ?_
  refine fg [1, 2] ?_
  refine AOps_box_im (ds := (Footer.enc a1)) (tl_get rfl) rfl rfl (by kernel_rfl) ?_
  refine fg [2, 3] ?_
  refine seg 1 [2, 3] [] [] (by kernel_rfl) (by kernel_rfl) ?_
  refine zn ?_
  refine AT_seq ?_
  refine zsr ?_
  refine seg 6 [2, 3, 15] [(15, bo (a0.Rows != a1.Rows))] [6, 7, 8, 9, 10, 11, 12, 13, 14, 15, 16, 17, 18, 19, 20, 21] (by kernel_rfl) (by kernel_rfl) ?_
  refine cased 15 (a0.Rows != a1.Rows) (by kernel_rfl) (fun hc4 => ?_) (fun hc4 => ?_)
  · rw [if_t hc4] at h
    refine seg 16 [2, 3, 31] [(31, bo true)] [] (by kernel_rfl) (by kernel_rfl) ?_
    refine zn ?_
    refine AT_cond_t (by kernel_rfl) ?_
    refine zsr ?_
    refine seg 1 [4] [(4, bo false)] [] (by kernel_rfl) (by kernel_rfl) ?_
    refine zn ?_
    refine AT_ret ?_
    refine athen_r ?_
    have e_ := Option.some.inj h
    subst e_
    exact ⟨[bo false], _, S, (.of (by kernel_rfl)), D.le.refl _, Store.le.refl _, rfl, hh⟩
  rw [if_f hc4] at h
  refine seg 3 [2, 3, 15, 18] [(18, i64 ((a0.Groups.map Group.enc).length : Int))] [9, 10, 11, 12, 13, 14, 15, 16, 17, 18, 19, 20, 21] (by kernel_rfl) (by kernel_rfl) ?_
  refine tod 18 (i64 ((a0.Groups.map Group.enc).length : Int)) (i64 (a0.Groups.length : Int)) (by kernel_rfl) (by rw [List.length_map]) ?_
  refine seg 3 [2, 3, 15, 18, 21] [(21, i64 ((a1.Groups.map Group.enc).length : Int))] [12, 13, 14, 15, 16, 17, 18, 19, 20, 21] (by kernel_rfl) (by kernel_rfl) ?_
  refine tod 21 (i64 ((a1.Groups.map Group.enc).length : Int)) (i64 (a1.Groups.length : Int)) (by kernel_rfl) (by rw [List.length_map]) ?_
  refine seg 3 [2, 3, 24] [(24, bo ((a0.Groups.length : Int) != (a1.Groups.length : Int)))] [15, 16, 17, 18, 19, 20, 21] (by kernel_rfl) (by kernel_rfl) ?_
  refine cased 24 ((a0.Groups.length : Int) != (a1.Groups.length : Int)) (by kernel_rfl) (fun hc5 => ?_) (fun hc5 => ?_)
  · rw [if_t hc5] at h
    refine seg 7 [2, 3, 31] [(31, bo true)] [] (by kernel_rfl) (by kernel_rfl) ?_
    refine zn ?_
    refine AT_cond_t (by kernel_rfl) ?_
    refine zsr ?_
    refine AOps_seg 1 0x10 (mkS 110 [(4, bo false)]) none [] (by kernel_rfl) (by kernel_rfl) trivial ?_
    refine zn ?_
    refine AT_ret ?_
    refine athen_r ?_
    have e_ := Option.some.inj h
    subst e_
    exact ⟨[bo false], _, S, (.of (by kernel_rfl)), D.le.refl _, Store.le.refl _, rfl, hh⟩
  rw [if_f hc5] at h
  refine seg 4 [2, 3, 24, 26, 28] [(26, .sl 3 (a0.Cols.map Col.enc) none), (28, .sl 3 (a1.Cols.map Col.enc) none)] [19, 20, 21] (by kernel_rfl) (by kernel_rfl) ?_
  obtain ⟨v2, ht2, h⟩ := bs h
  refine AOps_callR _ [.sl 3 (a0.Cols.map Col.enc) none, .sl 3 (a1.Cols.map Col.enc) none] (tl_get rfl) rfl rfl rfl rfl Try.func25 (by decide) rfl ((.cons (D.le.refl _) (.cons (D.le.refl _) (.nil)))) (ref07_Schema.ok _ a0.Cols a1.Cols _  _ ht2) ?_
  rintro _ S_ ⟨rfl, h2_⟩
  replace hh := hh.call0 h2_
  refine AOps_forget 0x2100000c (mkS 110 [(2, .pt (Footer.enc a0)), (3, .pt (Footer.enc a1)), (24, bo false), (29, bo v2)]) (by kernel_rfl) ?_
  refine seg 2 [2, 3, 31] [(31, bo (!v2))] [] (by kernel_rfl) (by kernel_rfl) ?_
  refine zn ?_
  refine AT_condS (!v2) (by kernel_rfl) (fun hc6 => ?_) (fun hc6 => ?_)
  · rw [if_t hc6] at h
    refine zsr ?_
    refine seg 1 [4] [(4, bo false)] [] (by kernel_rfl) (by kernel_rfl) ?_
    refine zn ?_
    refine AT_ret ?_
    refine athen_r ?_
    have e_ := Option.some.inj h
    subst e_
    exact ⟨[bo false], _, S_, (.of (by kernel_rfl)), D.le.refl _, Store.le.refl _, rfl, hh⟩
  rw [if_f hc6] at h
  refine zkn ?_
  refine AT_seq ?_
  refine zsr ?_
  refine seg 1 [2, 3, 5] [(5, i64 0)] [] (by kernel_rfl) (by kernel_rfl) ?_
  refine zn ?_
  refine AT_block ?_
  refine AT_loopM 0x2c (fun k_ sl_ S_ => k_ ≤ k ∧ ∃ (x1 : Int), LeL sl_ (mkS 110 [(2, .pt (Footer.enc a0)), (3, .pt (Footer.enc a1)), (5, i64 x1)]) ∧ ref19_Same.l0 k_ a0 a1 x1 = some r ∧ Own S [] S_ []) k ⟨Nat.le_refl _, 0, (le_rf (by kernel_rfl)), h, hh⟩ ?_
  clear hh h
  rintro k' sl_ S_ ⟨hk_, x1, hl_, h, hh⟩
  refine AT_weaken hl_ ?_
  obtain _ | k1 := k'
  · cases h
  rw [ref19_Same.l0] at h
  refine AT_seq ?_
  refine zsr ?_
  refine seg 4 [2, 3, 5, 32, 35] [(32, i64 x1), (35, i64 ((a0.Groups.map Group.enc).length : Int))] [4] (by kernel_rfl) (by kernel_rfl) ?_
  refine tod 35 (i64 ((a0.Groups.map Group.enc).length : Int)) (i64 (a0.Groups.length : Int)) (by kernel_rfl) (by rw [List.length_map]) ?_
  refine seg 1 [2, 3, 5, 36] [(36, bo (decide (x1 < (a0.Groups.length : Int))))] [] (by kernel_rfl) (by kernel_rfl) ?_
  refine zn ?_
  refine AT_condR (decide (x1 < (a0.Groups.length : Int))) (by kernel_rfl) (fun hc7 => ?_) (fun hc7 => ?_)
  · rw [if_f hc7] at h
    refine AT_exit ?_
    refine athen_e ?_
    refine athen_e ?_
    refine ablock_h ?_
    refine athen_n ?_
    refine zsr ?_
    refine seg 1 [4] [(4, bo true)] [] (by kernel_rfl) (by kernel_rfl) ?_
    refine zn ?_
    refine AT_ret ?_
    have e_ := Option.some.inj h
    subst e_
    exact ⟨[bo true], _, S_, (.of (by kernel_rfl)), D.le.refl _, Store.le.refl _, rfl, hh⟩
  rw [if_t hc7] at h
  refine zkn ?_
  refine AT_seq ?_
  refine AT_block ?_
  refine zsr ?_
  obtain ⟨hi6, h⟩ := is h
  refine segc 4 [2, 3, 5, 42] [(42, .pt ((a0.Groups.map Group.enc).getD (x1 : Int).toNat []))] (0 ≤ x1 ∧ x1 < ((a0.Groups.map Group.enc).length : Int)) [4, 5, 6] (by kernel_rfl) (by kernel_rfl) (idx_ok hi6) ?_
  refine tod 42 (.pt ((a0.Groups.map Group.enc).getD (x1 : Int).toNat [])) (.pt (Group.enc (rd a0.Groups x1 Group.zero))) (by kernel_rfl) (by rw [pt_rd Group.enc a0.Groups x1 Group.zero hi6.1 hi6.2]) ?_
  refine seg 1 [2, 3, 5, 43] [(43, .ag (Group.enc (rd a0.Groups x1 Group.zero)))] [5, 6] (by kernel_rfl) (by kernel_rfl) ?_
  refine AOps_newvar (zs := [i64 0, nilS]) (ds := (Group.enc (rd a0.Groups x1 Group.zero))) (d := 6) (tl_get rfl) rfl rfl rfl (by kernel_rfl) (by kernel_rfl) (tl_get rfl) (fun _ => rfl) rfl rfl (fun _ => rfl) rfl (by kernel_rfl) (by kernel_rfl) ?_
  refine AOps_forget 0x6c (mkS 110 [(2, .pt (Footer.enc a0)), (3, .pt (Footer.enc a1)), (5, i64 x1), (6, .pt (Group.enc (rd a0.Groups x1 Group.zero)))]) (by kernel_rfl) ?_
  refine znsr ?_
  obtain ⟨hi7, h⟩ := is h
  refine segc 4 [2, 3, 5, 6, 47] [(47, .pt ((a1.Groups.map Group.enc).getD (x1 : Int).toNat []))] (0 ≤ x1 ∧ x1 < ((a1.Groups.map Group.enc).length : Int)) [4, 5, 6] (by kernel_rfl) (by kernel_rfl) (idx_ok hi7) ?_
  refine tod 47 (.pt ((a1.Groups.map Group.enc).getD (x1 : Int).toNat [])) (.pt (Group.enc (rd a1.Groups x1 Group.zero))) (by kernel_rfl) (by rw [pt_rd Group.enc a1.Groups x1 Group.zero hi7.1 hi7.2]) ?_
  refine seg 1 [2, 3, 5, 6, 48] [(48, .ag (Group.enc (rd a1.Groups x1 Group.zero)))] [5, 6] (by kernel_rfl) (by kernel_rfl) ?_
  refine AOps_newvar (zs := [i64 0, nilS]) (ds := (Group.enc (rd a1.Groups x1 Group.zero))) (d := 7) (tl_get rfl) rfl rfl rfl (by kernel_rfl) (by kernel_rfl) (tl_get rfl) (fun _ => rfl) rfl rfl (fun _ => rfl) rfl (by kernel_rfl) (by kernel_rfl) ?_
  refine AOps_forget 0xec (mkS 110 [(2, .pt (Footer.enc a0)), (3, .pt (Footer.enc a1)), (5, i64 x1), (6, .pt (Group.enc (rd a0.Groups x1 Group.zero))), (7, .pt (Group.enc (rd a1.Groups x1 Group.zero)))]) (by kernel_rfl) ?_
  refine zn ?_
  refine AT_seq ?_
  refine zsr ?_
  refine seg 6 [2, 3, 5, 6, 7, 54] [(54, bo (((rd a0.Groups x1 Group.zero).Rows) != ((rd a1.Groups x1 Group.zero).Rows)))] [6, 7, 8, 9, 10, 11, 12, 13] (by kernel_rfl) (by kernel_rfl) ?_
  refine cased 54 (((rd a0.Groups x1 Group.zero).Rows) != ((rd a1.Groups x1 Group.zero).Rows)) (by kernel_rfl) (fun hc10 => ?_) (fun hc10 => ?_)
  · rw [if_t hc10] at h
    refine seg 8 [2, 3, 5, 6, 7, 62] [(62, bo true)] [] (by kernel_rfl) (by kernel_rfl) ?_
    refine zn ?_
    refine AT_cond_t (by kernel_rfl) ?_
    refine zsr ?_
    refine seg 1 [4] [(4, bo false)] [] (by kernel_rfl) (by kernel_rfl) ?_
    refine zn ?_
    refine AT_ret ?_
    refine athen_r ?_
    refine ablock_r ?_
    refine athen_r ?_
    refine athen_r ?_
    refine ablock_r ?_
    refine athen_r ?_
    have e_ := Option.some.inj h
    subst e_
    exact ⟨[bo false], _, S_, (.of (by kernel_rfl)), D.le.refl _, Store.le.refl _, rfl, hh⟩
  rw [if_f hc10] at h
  refine seg 3 [2, 3, 5, 6, 7, 54, 57] [(57, i64 ((((rd a0.Groups x1 Group.zero).Chunks).map (eL 14 PageInfo.enc)).length : Int))] [9, 10, 11, 12, 13] (by kernel_rfl) (by kernel_rfl) ?_
  refine tod 57 (i64 ((((rd a0.Groups x1 Group.zero).Chunks).map (eL 14 PageInfo.enc)).length : Int)) (i64 (((rd a0.Groups x1 Group.zero).Chunks).length : Int)) (by kernel_rfl) (by rw [List.length_map]) ?_
  refine seg 3 [2, 3, 5, 6, 7, 54, 57, 60] [(60, i64 ((((rd a1.Groups x1 Group.zero).Chunks).map (eL 14 PageInfo.enc)).length : Int))] [12, 13] (by kernel_rfl) (by kernel_rfl) ?_
  refine tod 60 (i64 ((((rd a1.Groups x1 Group.zero).Chunks).map (eL 14 PageInfo.enc)).length : Int)) (i64 (((rd a1.Groups x1 Group.zero).Chunks).length : Int)) (by kernel_rfl) (by rw [List.length_map]) ?_
  refine seg 2 [2, 3, 5, 6, 7, 62] [(62, bo ((((rd a0.Groups x1 Group.zero).Chunks).length : Int) != (((rd a1.Groups x1 Group.zero).Chunks).length : Int)))] [] (by kernel_rfl) (by kernel_rfl) ?_
  refine zn ?_
  refine AT_condS ((((rd a0.Groups x1 Group.zero).Chunks).length : Int) != (((rd a1.Groups x1 Group.zero).Chunks).length : Int)) (by kernel_rfl) (fun hc11 => ?_) (fun hc11 => ?_)
  · rw [if_t hc11] at h
    refine zsr ?_
    refine seg 1 [4] [(4, bo false)] [] (by kernel_rfl) (by kernel_rfl) ?_
    refine zn ?_
    refine AT_ret ?_
    refine athen_r ?_
    refine ablock_r ?_
    refine athen_r ?_
    refine athen_r ?_
    refine ablock_r ?_
    refine athen_r ?_
    have e_ := Option.some.inj h
    subst e_
    exact ⟨[bo false], _, S_, (.of (by kernel_rfl)), D.le.refl _, Store.le.refl _, rfl, hh⟩
  rw [if_f hc11] at h
  refine zkn ?_
  refine zsr ?_
  refine seg 1 [2, 3, 5, 6, 7, 8] [(8, i64 0)] [] (by kernel_rfl) (by kernel_rfl) ?_
  refine zn ?_
  refine AT_block ?_
  refine AT_loopM 0x1ec (fun k_ sl_ S_ => k_ ≤ k1 ∧ ∃ (x2 : Int), LeL sl_ (mkS 110 [(2, .pt (Footer.enc a0)), (3, .pt (Footer.enc a1)), (5, i64 x1), (6, .pt (Group.enc (rd a0.Groups x1 Group.zero))), (7, .pt (Group.enc (rd a1.Groups x1 Group.zero))), (8, i64 x2)]) ∧ ref19_Same.l1 k_ a0 a1 x1 x2 = some r ∧ Own S [] S_ []) k1 ⟨Nat.le_refl _, 0, (le_rf (by kernel_rfl)), h, hh⟩ ?_
  clear hh h
  rintro k' sl_ S_ ⟨hk_, x2, hl_, h, hh⟩
  refine AT_weaken hl_ ?_
  obtain _ | k2 := k'
  · cases h
  rw [ref19_Same.l1] at h
  refine AT_seq ?_
  refine zsr ?_
  refine seg 4 [2, 3, 5, 6, 7, 8, 63, 66] [(63, i64 x2), (66, i64 ((((rd a0.Groups x1 Group.zero).Chunks).map (eL 14 PageInfo.enc)).length : Int))] [4] (by kernel_rfl) (by kernel_rfl) ?_
  refine tod 66 (i64 ((((rd a0.Groups x1 Group.zero).Chunks).map (eL 14 PageInfo.enc)).length : Int)) (i64 (((rd a0.Groups x1 Group.zero).Chunks).length : Int)) (by kernel_rfl) (by rw [List.length_map]) ?_
  refine seg 1 [2, 3, 5, 6, 7, 8, 67] [(67, bo (decide (x2 < (((rd a0.Groups x1 Group.zero).Chunks).length : Int))))] [] (by kernel_rfl) (by kernel_rfl) ?_
  refine zn ?_
  refine AT_condR (decide (x2 < (((rd a0.Groups x1 Group.zero).Chunks).length : Int))) (by kernel_rfl) (fun hc12 => ?_) (fun hc12 => ?_)
  · rw [if_f hc12] at h
    refine AT_exit ?_
    refine athen_e ?_
    refine athen_e ?_
    refine ablock_h ?_
    refine ablock_n ?_
    refine athen_n ?_
    refine AT_region ?_
    refine seg 3 [2, 3, 5] [(5, i64 (IntKind.wrap .i64 (x1 + 1)))] [] (by kernel_rfl) (by kernel_rfl) ?_
    refine zn ?_
    exact ⟨k2, (by omega), (by omega), IntKind.wrap .i64 (x1 + 1), (le_rf (by kernel_rfl)), h, hh⟩
  rw [if_t hc12] at h
  refine zkn ?_
  refine AT_seq ?_
  refine AT_block ?_
  refine AT_seq ?_
  refine AT_seq ?_
  refine AT_draw [] 13 (fun _ => True) (by kernel_rfl) ?_
  refine aseg 13 [] [2, 3, 5, 6, 7, 8] [] #[false, false, false, false, false, false, false, false, false, false, false, false, false] (by kernel_rfl) (by kernel_rfl) ?_
  obtain ⟨hi13, h⟩ := is h
  refine asegc 9 [0, 1, 2, 3] [2, 3, 5, 6, 7, 8, 73] [(73, .pt ((((rd a0.Groups x1 Group.zero).Chunks).map (eL 14 PageInfo.enc)).getD (x2 : Int).toNat []))] (0 ≤ x2 ∧ x2 < ((((rd a0.Groups x1 Group.zero).Chunks).map (eL 14 PageInfo.enc)).length : Int)) #[true, true, true, true, false, false, false, false, false, false, false, false, false] (by kernel_rfl) (idx_ok hi13) (by kernel_rfl) ?_
  refine atod 73 (.pt ((((rd a0.Groups x1 Group.zero).Chunks).map (eL 14 PageInfo.enc)).getD (x2 : Int).toNat [])) (.pt [.sl 14 ((rd ((rd a0.Groups x1 Group.zero).Chunks) x2 []).map PageInfo.enc) none]) (by kernel_rfl) (by rw [pt_rd (eL 14 PageInfo.enc) ((rd a0.Groups x1 Group.zero).Chunks) x2 [] hi13.1 hi13.2]) ?_
  refine aseg 7 [4, 5] [2, 3, 5, 6, 7, 8, 75] [(75, i64 (((rd ((rd a0.Groups x1 Group.zero).Chunks) x2 []).map PageInfo.enc).length : Int))] #[true, true, true, true, true, true, false, false, false, false, false, false, false] (by kernel_rfl) (by kernel_rfl) ?_
  refine atod 75 (i64 (((rd ((rd a0.Groups x1 Group.zero).Chunks) x2 []).map PageInfo.enc).length : Int)) (i64 ((rd ((rd a0.Groups x1 Group.zero).Chunks) x2 []).length : Int)) (by kernel_rfl) (by rw [List.length_map]) ?_
  obtain ⟨hi15, h⟩ := is h
  refine asegc 3 [6, 7, 8, 9] [2, 3, 5, 6, 7, 8, 75, 79] [(79, .pt ((((rd a1.Groups x1 Group.zero).Chunks).map (eL 14 PageInfo.enc)).getD (x2 : Int).toNat []))] (0 ≤ x2 ∧ x2 < ((((rd a1.Groups x1 Group.zero).Chunks).map (eL 14 PageInfo.enc)).length : Int)) #[true, true, true, true, true, true, true, true, true, true, false, false, false] (by kernel_rfl) (idx_ok hi15) (by kernel_rfl) ?_
  refine atod 79 (.pt ((((rd a1.Groups x1 Group.zero).Chunks).map (eL 14 PageInfo.enc)).getD (x2 : Int).toNat [])) (.pt [.sl 14 ((rd ((rd a1.Groups x1 Group.zero).Chunks) x2 []).map PageInfo.enc) none]) (by kernel_rfl) (by rw [pt_rd (eL 14 PageInfo.enc) ((rd a1.Groups x1 Group.zero).Chunks) x2 [] hi15.1 hi15.2]) ?_
  refine aseg 1 [10, 11] [2, 3, 5, 6, 7, 8, 75, 81] [(81, i64 (((rd ((rd a1.Groups x1 Group.zero).Chunks) x2 []).map PageInfo.enc).length : Int))] #[true, true, true, true, true, true, true, true, true, true, true, true, false] (by kernel_rfl) (by kernel_rfl) ?_
  refine atod 81 (i64 (((rd ((rd a1.Groups x1 Group.zero).Chunks) x2 []).map PageInfo.enc).length : Int)) (i64 ((rd ((rd a1.Groups x1 Group.zero).Chunks) x2 []).length : Int)) (by kernel_rfl) (by rw [List.length_map]) ?_
  refine aseg 0 [12] [2, 3, 5, 6, 7, 8, 82] [(82, bo (((rd ((rd a0.Groups x1 Group.zero).Chunks) x2 []).length : Int) != ((rd ((rd a1.Groups x1 Group.zero).Chunks) x2 []).length : Int)))] #[true, true, true, true, true, true, true, true, true, true, true, true, true] (by kernel_rfl) (by kernel_rfl) ?_
  refine AAny_end (.inr trivial) (by kernel_rfl) ?_
  refine athen_n ?_
  refine AT_condS (((rd ((rd a0.Groups x1 Group.zero).Chunks) x2 []).length : Int) != ((rd ((rd a1.Groups x1 Group.zero).Chunks) x2 []).length : Int)) (by kernel_rfl) (fun hc13 => ?_) (fun hc13 => ?_)
  · rw [if_t hc13] at h
    refine zsr ?_
    refine AOps_seg 1 0x10 (mkS 110 [(4, bo false)]) none [] (by kernel_rfl) (by kernel_rfl) trivial ?_
    refine zn ?_
    refine AT_ret ?_
    refine athen_r ?_
    refine ablock_r ?_
    refine athen_r ?_
    refine athen_r ?_
    refine ablock_r ?_
    refine ablock_r ?_
    refine athen_r ?_
    refine athen_r ?_
    refine ablock_r ?_
    refine athen_r ?_
    have e_ := Option.some.inj h
    subst e_
    exact ⟨[bo false], _, S_, (.of (by kernel_rfl)), D.le.refl _, Store.le.refl _, rfl, hh⟩
  rw [if_f hc13] at h
  refine zkn ?_
  refine zsr ?_
  refine AOps_seg 1 0x3ec (mkS 110 [(2, .pt (Footer.enc a0)), (3, .pt (Footer.enc a1)), (5, i64 x1), (6, .pt (Group.enc (rd a0.Groups x1 Group.zero))), (7, .pt (Group.enc (rd a1.Groups x1 Group.zero))), (8, i64 x2), (9, i64 0)]) none [] (by kernel_rfl) (by kernel_rfl) trivial ?_
  refine zn ?_
  refine AT_block ?_
  refine AT_loopM 0x3ec (fun k_ sl_ S_ => k_ ≤ k2 ∧ ∃ (x3 : Int), LeL sl_ (mkS 110 [(2, .pt (Footer.enc a0)), (3, .pt (Footer.enc a1)), (5, i64 x1), (6, .pt (Group.enc (rd a0.Groups x1 Group.zero))), (7, .pt (Group.enc (rd a1.Groups x1 Group.zero))), (8, i64 x2), (9, i64 x3)]) ∧ ref19_Same.l2 k_ a0 a1 x1 x2 x3 = some r ∧ Own S [] S_ []) k2 ⟨Nat.le_refl _, 0, (le_rf (by kernel_rfl)), h, hh⟩ ?_
  clear hh h
  rintro k' sl_ S_ ⟨hk_, x3, hl_, h, hh⟩
  refine AT_weaken hl_ ?_
  obtain _ | k3 := k'
  · cases h
  rw [ref19_Same.l2] at h
  refine AT_seq ?_
  refine zsr ?_
  obtain ⟨hi17, h⟩ := is h
  refine segc 5 [2, 3, 5, 6, 7, 8, 9, 83, 87] [(83, i64 x3), (87, .pt ((((rd a0.Groups x1 Group.zero).Chunks).map (eL 14 PageInfo.enc)).getD (x2 : Int).toNat []))] (0 ≤ x2 ∧ x2 < ((((rd a0.Groups x1 Group.zero).Chunks).map (eL 14 PageInfo.enc)).length : Int)) [5, 6, 7] (by kernel_rfl) (by kernel_rfl) (idx_ok hi17) ?_
  refine tod 87 (.pt ((((rd a0.Groups x1 Group.zero).Chunks).map (eL 14 PageInfo.enc)).getD (x2 : Int).toNat [])) (.pt [.sl 14 ((rd ((rd a0.Groups x1 Group.zero).Chunks) x2 []).map PageInfo.enc) none]) (by kernel_rfl) (by rw [pt_rd (eL 14 PageInfo.enc) ((rd a0.Groups x1 Group.zero).Chunks) x2 [] hi17.1 hi17.2]) ?_
  refine seg 2 [2, 3, 5, 6, 7, 8, 9, 83, 89] [(89, i64 (((rd ((rd a0.Groups x1 Group.zero).Chunks) x2 []).map PageInfo.enc).length : Int))] [7] (by kernel_rfl) (by kernel_rfl) ?_
  refine tod 89 (i64 (((rd ((rd a0.Groups x1 Group.zero).Chunks) x2 []).map PageInfo.enc).length : Int)) (i64 ((rd ((rd a0.Groups x1 Group.zero).Chunks) x2 []).length : Int)) (by kernel_rfl) (by rw [List.length_map]) ?_
  refine seg 1 [2, 3, 5, 6, 7, 8, 9, 90] [(90, bo (decide (x3 < ((rd ((rd a0.Groups x1 Group.zero).Chunks) x2 []).length : Int))))] [] (by kernel_rfl) (by kernel_rfl) ?_
  refine zn ?_
  refine AT_condR (decide (x3 < ((rd ((rd a0.Groups x1 Group.zero).Chunks) x2 []).length : Int))) (by kernel_rfl) (fun hc14 => ?_) (fun hc14 => ?_)
  · rw [if_f hc14] at h
    refine AT_exit ?_
    refine athen_e ?_
    refine athen_e ?_
    refine ablock_h ?_
    refine ablock_n ?_
    refine athen_n ?_
    refine AT_region ?_
    refine seg 3 [2, 3, 5, 6, 7, 8] [(8, i64 (IntKind.wrap .i64 (x2 + 1)))] [] (by kernel_rfl) (by kernel_rfl) ?_
    refine zn ?_
    exact ⟨k3, (by omega), (by omega), IntKind.wrap .i64 (x2 + 1), (le_rf (by kernel_rfl)), h, hh⟩
  rw [if_t hc14] at h
  refine zkn ?_
  refine AT_seq ?_
  refine AT_block ?_
  refine AT_seq ?_
  refine AT_draw [] 17 (fun _ => True) (by kernel_rfl) ?_
  refine aseg 17 [] [2, 3, 5, 6, 7, 8, 9] [] #[false, false, false, false, false, false, false, false, false, false, false, false, false, false, false, false, false] (by kernel_rfl) (by kernel_rfl) ?_
  obtain ⟨hi19, h⟩ := is h
  refine asegc 13 [0, 1, 2, 3] [2, 3, 5, 6, 7, 8, 9, 96] [(96, .pt ((((rd a0.Groups x1 Group.zero).Chunks).map (eL 14 PageInfo.enc)).getD (x2 : Int).toNat []))] (0 ≤ x2 ∧ x2 < ((((rd a0.Groups x1 Group.zero).Chunks).map (eL 14 PageInfo.enc)).length : Int)) #[true, true, true, true, false, false, false, false, false, false, false, false, false, false, false, false, false] (by kernel_rfl) (idx_ok hi19) (by kernel_rfl) ?_
  refine atod 96 (.pt ((((rd a0.Groups x1 Group.zero).Chunks).map (eL 14 PageInfo.enc)).getD (x2 : Int).toNat [])) (.pt [.sl 14 ((rd ((rd a0.Groups x1 Group.zero).Chunks) x2 []).map PageInfo.enc) none]) (by kernel_rfl) (by rw [pt_rd (eL 14 PageInfo.enc) ((rd a0.Groups x1 Group.zero).Chunks) x2 [] hi19.1 hi19.2]) ?_
  obtain ⟨hi20, h⟩ := is h
  refine asegc 10 [4, 5, 6] [2, 3, 5, 6, 7, 8, 9, 99] [(99, .pt (((rd ((rd a0.Groups x1 Group.zero).Chunks) x2 []).map PageInfo.enc).getD (x3 : Int).toNat []))] (0 ≤ x3 ∧ x3 < (((rd ((rd a0.Groups x1 Group.zero).Chunks) x2 []).map PageInfo.enc).length : Int)) #[true, true, true, true, true, true, true, false, false, false, false, false, false, false, false, false, false] (by kernel_rfl) (idx_ok hi20) (by kernel_rfl) ?_
  refine atod 99 (.pt (((rd ((rd a0.Groups x1 Group.zero).Chunks) x2 []).map PageInfo.enc).getD (x3 : Int).toNat [])) (.pt (PageInfo.enc (rd (rd ((rd a0.Groups x1 Group.zero).Chunks) x2 []) x3 PageInfo.zero))) (by kernel_rfl) (by rw [pt_rd PageInfo.enc (rd ((rd a0.Groups x1 Group.zero).Chunks) x2 []) x3 PageInfo.zero hi20.1 hi20.2]) ?_
  obtain ⟨hi21, h⟩ := is h
  refine asegc 5 [7, 8, 9, 10, 11] [2, 3, 5, 6, 7, 8, 9, 100, 104] [(100, .ag (PageInfo.enc (rd (rd ((rd a0.Groups x1 Group.zero).Chunks) x2 []) x3 PageInfo.zero))), (104, .pt ((((rd a1.Groups x1 Group.zero).Chunks).map (eL 14 PageInfo.enc)).getD (x2 : Int).toNat []))] (0 ≤ x2 ∧ x2 < ((((rd a1.Groups x1 Group.zero).Chunks).map (eL 14 PageInfo.enc)).length : Int)) #[true, true, true, true, true, true, true, true, true, true, true, true, false, false, false, false, false] (by kernel_rfl) (idx_ok hi21) (by kernel_rfl) ?_
  refine atod 104 (.pt ((((rd a1.Groups x1 Group.zero).Chunks).map (eL 14 PageInfo.enc)).getD (x2 : Int).toNat [])) (.pt [.sl 14 ((rd ((rd a1.Groups x1 Group.zero).Chunks) x2 []).map PageInfo.enc) none]) (by kernel_rfl) (by rw [pt_rd (eL 14 PageInfo.enc) ((rd a1.Groups x1 Group.zero).Chunks) x2 [] hi21.1 hi21.2]) ?_
  obtain ⟨hi22, h⟩ := is h
  refine asegc 2 [12, 13, 14] [2, 3, 5, 6, 7, 8, 9, 100, 107] [(107, .pt (((rd ((rd a1.Groups x1 Group.zero).Chunks) x2 []).map PageInfo.enc).getD (x3 : Int).toNat []))] (0 ≤ x3 ∧ x3 < (((rd ((rd a1.Groups x1 Group.zero).Chunks) x2 []).map PageInfo.enc).length : Int)) #[true, true, true, true, true, true, true, true, true, true, true, true, true, true, true, false, false] (by kernel_rfl) (idx_ok hi22) (by kernel_rfl) ?_
  refine atod 107 (.pt (((rd ((rd a1.Groups x1 Group.zero).Chunks) x2 []).map PageInfo.enc).getD (x3 : Int).toNat [])) (.pt (PageInfo.enc (rd (rd ((rd a1.Groups x1 Group.zero).Chunks) x2 []) x3 PageInfo.zero))) (by kernel_rfl) (by rw [pt_rd PageInfo.enc (rd ((rd a1.Groups x1 Group.zero).Chunks) x2 []) x3 PageInfo.zero hi22.1 hi22.2]) ?_
  refine AAny_seg 0 [15, 16] 0x20000000000000000000000003ec (mkS 110 [(2, .pt (Footer.enc a0)), (3, .pt (Footer.enc a1)), (5, i64 x1), (6, .pt (Group.enc (rd a0.Groups x1 Group.zero))), (7, .pt (Group.enc (rd a1.Groups x1 Group.zero))), (8, i64 x2), (9, i64 x3), (109, bo (!((((rd (rd ((rd a0.Groups x1 Group.zero).Chunks) x2 []) x3 PageInfo.zero).Size) == ((rd (rd ((rd a1.Groups x1 Group.zero).Chunks) x2 []) x3 PageInfo.zero).Size)) && ((((rd (rd ((rd a0.Groups x1 Group.zero).Chunks) x2 []) x3 PageInfo.zero).Rows) == ((rd (rd ((rd a1.Groups x1 Group.zero).Chunks) x2 []) x3 PageInfo.zero).Rows)) && ((((((rd (rd ((rd a0.Groups x1 Group.zero).Chunks) x2 []) x3 PageInfo.zero).Stat).Nulls) == (((rd (rd ((rd a1.Groups x1 Group.zero).Chunks) x2 []) x3 PageInfo.zero).Stat).Nulls)) && (((((rd (rd ((rd a0.Groups x1 Group.zero).Chunks) x2 []) x3 PageInfo.zero).Stat).Has) == (((rd (rd ((rd a1.Groups x1 Group.zero).Chunks) x2 []) x3 PageInfo.zero).Stat).Has)) && (((((((rd (rd ((rd a0.Groups x1 Group.zero).Chunks) x2 []) x3 PageInfo.zero).Stat).Min).Null) == ((((rd (rd ((rd a1.Groups x1 Group.zero).Chunks) x2 []) x3 PageInfo.zero).Stat).Min).Null)) && ((((((rd (rd ((rd a0.Groups x1 Group.zero).Chunks) x2 []) x3 PageInfo.zero).Stat).Min).Int) == ((((rd (rd ((rd a1.Groups x1 Group.zero).Chunks) x2 []) x3 PageInfo.zero).Stat).Min).Int)) && ((((((rd (rd ((rd a0.Groups x1 Group.zero).Chunks) x2 []) x3 PageInfo.zero).Stat).Min).Text) == ((((rd (rd ((rd a1.Groups x1 Group.zero).Chunks) x2 []) x3 PageInfo.zero).Stat).Min).Text)) && ((((((((rd (rd ((rd a0.Groups x1 Group.zero).Chunks) x2 []) x3 PageInfo.zero).Stat).Min).At).X) == (((((rd (rd ((rd a1.Groups x1 Group.zero).Chunks) x2 []) x3 PageInfo.zero).Stat).Min).At).X)) && (((((((rd (rd ((rd a0.Groups x1 Group.zero).Chunks) x2 []) x3 PageInfo.zero).Stat).Min).At).Y) == (((((rd (rd ((rd a1.Groups x1 Group.zero).Chunks) x2 []) x3 PageInfo.zero).Stat).Min).At).Y)) && true)) && true)))) && (((((((rd (rd ((rd a0.Groups x1 Group.zero).Chunks) x2 []) x3 PageInfo.zero).Stat).Max).Null) == ((((rd (rd ((rd a1.Groups x1 Group.zero).Chunks) x2 []) x3 PageInfo.zero).Stat).Max).Null)) && ((((((rd (rd ((rd a0.Groups x1 Group.zero).Chunks) x2 []) x3 PageInfo.zero).Stat).Max).Int) == ((((rd (rd ((rd a1.Groups x1 Group.zero).Chunks) x2 []) x3 PageInfo.zero).Stat).Max).Int)) && ((((((rd (rd ((rd a0.Groups x1 Group.zero).Chunks) x2 []) x3 PageInfo.zero).Stat).Max).Text) == ((((rd (rd ((rd a1.Groups x1 Group.zero).Chunks) x2 []) x3 PageInfo.zero).Stat).Max).Text)) && ((((((((rd (rd ((rd a0.Groups x1 Group.zero).Chunks) x2 []) x3 PageInfo.zero).Stat).Max).At).X) == (((((rd (rd ((rd a1.Groups x1 Group.zero).Chunks) x2 []) x3 PageInfo.zero).Stat).Max).At).X)) && (((((((rd (rd ((rd a0.Groups x1 Group.zero).Chunks) x2 []) x3 PageInfo.zero).Stat).Max).At).Y) == (((((rd (rd ((rd a1.Groups x1 Group.zero).Chunks) x2 []) x3 PageInfo.zero).Stat).Max).At).Y)) && true)) && true)))) && true)))) && true)))))]) none #[true, true, true, true, true, true, true, true, true, true, true, true, true, true, true, true, true] (by kernel_rfl) trivial (by kernel_rfl) ?_
  refine AAny_end (.inr trivial) (by kernel_rfl) ?_
  refine athen_n ?_
  refine AT_condR (!((((rd (rd ((rd a0.Groups x1 Group.zero).Chunks) x2 []) x3 PageInfo.zero).Size) == ((rd (rd ((rd a1.Groups x1 Group.zero).Chunks) x2 []) x3 PageInfo.zero).Size)) && ((((rd (rd ((rd a0.Groups x1 Group.zero).Chunks) x2 []) x3 PageInfo.zero).Rows) == ((rd (rd ((rd a1.Groups x1 Group.zero).Chunks) x2 []) x3 PageInfo.zero).Rows)) && ((((((rd (rd ((rd a0.Groups x1 Group.zero).Chunks) x2 []) x3 PageInfo.zero).Stat).Nulls) == (((rd (rd ((rd a1.Groups x1 Group.zero).Chunks) x2 []) x3 PageInfo.zero).Stat).Nulls)) && (((((rd (rd ((rd a0.Groups x1 Group.zero).Chunks) x2 []) x3 PageInfo.zero).Stat).Has) == (((rd (rd ((rd a1.Groups x1 Group.zero).Chunks) x2 []) x3 PageInfo.zero).Stat).Has)) && (((((((rd (rd ((rd a0.Groups x1 Group.zero).Chunks) x2 []) x3 PageInfo.zero).Stat).Min).Null) == ((((rd (rd ((rd a1.Groups x1 Group.zero).Chunks) x2 []) x3 PageInfo.zero).Stat).Min).Null)) && ((((((rd (rd ((rd a0.Groups x1 Group.zero).Chunks) x2 []) x3 PageInfo.zero).Stat).Min).Int) == ((((rd (rd ((rd a1.Groups x1 Group.zero).Chunks) x2 []) x3 PageInfo.zero).Stat).Min).Int)) && ((((((rd (rd ((rd a0.Groups x1 Group.zero).Chunks) x2 []) x3 PageInfo.zero).Stat).Min).Text) == ((((rd (rd ((rd a1.Groups x1 Group.zero).Chunks) x2 []) x3 PageInfo.zero).Stat).Min).Text)) && ((((((((rd (rd ((rd a0.Groups x1 Group.zero).Chunks) x2 []) x3 PageInfo.zero).Stat).Min).At).X) == (((((rd (rd ((rd a1.Groups x1 Group.zero).Chunks) x2 []) x3 PageInfo.zero).Stat).Min).At).X)) && (((((((rd (rd ((rd a0.Groups x1 Group.zero).Chunks) x2 []) x3 PageInfo.zero).Stat).Min).At).Y) == (((((rd (rd ((rd a1.Groups x1 Group.zero).Chunks) x2 []) x3 PageInfo.zero).Stat).Min).At).Y)) && true)) && true)))) && (((((((rd (rd ((rd a0.Groups x1 Group.zero).Chunks) x2 []) x3 PageInfo.zero).Stat).Max).Null) == ((((rd (rd ((rd a1.Groups x1 Group.zero).Chunks) x2 []) x3 PageInfo.zero).Stat).Max).Null)) && ((((((rd (rd ((rd a0.Groups x1 Group.zero).Chunks) x2 []) x3 PageInfo.zero).Stat).Max).Int) == ((((rd (rd ((rd a1.Groups x1 Group.zero).Chunks) x2 []) x3 PageInfo.zero).Stat).Max).Int)) && ((((((rd (rd ((rd a0.Groups x1 Group.zero).Chunks) x2 []) x3 PageInfo.zero).Stat).Max).Text) == ((((rd (rd ((rd a1.Groups x1 Group.zero).Chunks) x2 []) x3 PageInfo.zero).Stat).Max).Text)) && ((((((((rd (rd ((rd a0.Groups x1 Group.zero).Chunks) x2 []) x3 PageInfo.zero).Stat).Max).At).X) == (((((rd (rd ((rd a1.Groups x1 Group.zero).Chunks) x2 []) x3 PageInfo.zero).Stat).Max).At).X)) && (((((((rd (rd ((rd a0.Groups x1 Group.zero).Chunks) x2 []) x3 PageInfo.zero).Stat).Max).At).Y) == (((((rd (rd ((rd a1.Groups x1 Group.zero).Chunks) x2 []) x3 PageInfo.zero).Stat).Max).At).Y)) && true)) && true)))) && true)))) && true)))) (by kernel_rfl) (fun hc15 => ?_) (fun hc15 => ?_)
  · rw [if_f hc15] at h
    refine AT_skip ?_
    refine ablock_n ?_
    refine athen_n ?_
    refine AT_region ?_
    refine seg 3 [2, 3, 5, 6, 7, 8, 9] [(9, i64 (IntKind.wrap .i64 (x3 + 1)))] [] (by kernel_rfl) (by kernel_rfl) ?_
    refine zn ?_
    exact ⟨k3, (by omega), (by omega), IntKind.wrap .i64 (x3 + 1), (le_rf (by kernel_rfl)), h, hh⟩
  rw [if_t hc15] at h
  refine zsr ?_
  refine seg 1 [4] [(4, bo false)] [] (by kernel_rfl) (by kernel_rfl) ?_
  refine zn ?_
  refine AT_ret ?_
  refine ablock_r ?_
  refine athen_r ?_
  refine athen_r ?_
  refine ablock_r ?_
  refine ablock_r ?_
  refine athen_r ?_
  refine athen_r ?_
  refine ablock_r ?_
  refine ablock_r ?_
  refine athen_r ?_
  refine athen_r ?_
  refine ablock_r ?_
  refine athen_r ?_
  have e_ := Option.some.inj h
  subst e_
  exact ⟨[bo false], _, S_, (.of (by kernel_rfl)), D.le.refl _, Store.le.refl _, rfl, hh⟩
end Go.Proofs.Ytfaojkajlpojlaa.Abs
