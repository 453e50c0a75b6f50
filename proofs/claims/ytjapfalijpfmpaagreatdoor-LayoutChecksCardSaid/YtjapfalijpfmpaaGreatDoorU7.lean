/- What functions of the program compute, each with the proof that it does (printed by wip/gen/all.py). -/
import Derived.Test.YtjapfalijpfmpaaGreatDoorU6
import Derived.KernelRfl
namespace Go.Proofs.YtjapfalijpfmpaaGreatDoor.Abs
open Go
set_option maxRecDepth 100000
def law18_LayoutChecks.f (k : Nat) (a0 : Conf) (a1 : (List Col)) : Option (Bool) := (law18_small.f k ).bind fun v1 => (if v1 = true then (if (decide ((a1.length : Int) > 200)) = true then (some true) else (if (decide ((a0.Encs.length : Int) > 200)) = true then (some true) else ((layout_Check.f k a0 a1).bind fun v8 => ((ref18_Check.f k a0 a1).bind fun v10 => (some (v8 == v10)))))) else (some false))
theorem law18_LayoutChecks.mono (k : Nat) (a0 : Conf) (a1 : (List Col)) : LeO (law18_LayoutChecks.f k a0 a1) (law18_LayoutChecks.f (k + 1) a0 a1) := by
  unfold law18_LayoutChecks.f
  repeat' first
    | exact LeO.refl _
    | exact LeO.none _
    | exact layout_Check.mono _ _ _
    | exact law18_small.mono _
    | exact ref18_Check.mono _ _ _
    | refine LeO.ite ?_ ?_
    | refine LeO.bind ?_ (fun _ => ?_)
theorem law18_LayoutChecks.ok (k : Nat) (a0 : Conf) (a1 : (List Col)) (S : Store) (r : Bool) (h : law18_LayoutChecks.f k a0 a1 = some r) : ACalls Tryz.prog 4 [.ag (Conf.enc a0), .sl 3 (a1.map Col.enc) none] S (Ret (bo r) S) := by
  unfold law18_LayoutChecks.f at h
  refine acalls_of Tryz.func4 rfl ?_
  have hB : S.le S := Store.le.refl S
  refine AT_forget 0x3 (mkS 28 [(0, .ag (Conf.enc a0)), (1, .sl 3 (a1.map Col.enc) none)]) (by kernel_rfl) ?_
  refine AT_seq ?_
  refine AT_region ?_
  refine AOps_box_im (ds := (Conf.enc a0)) (tl_get rfl) rfl rfl (by kernel_rfl) ?_
  refine AOps_forget 0x6 (mkS 28 [(1, .sl 3 (a1.map Col.enc) none), (2, .pt (Conf.enc a0))]) (by kernel_rfl) ?_
  refine AOps_seg 1 0x6 (mkS 28 [(1, .sl 3 (a1.map Col.enc) none), (2, .pt (Conf.enc a0))]) none [] (by kernel_rfl) (by kernel_rfl) trivial ?_
  refine AOps_end ?_
  refine athen_n ?_
  refine AT_seq ?_
  refine AT_region ?_
  obtain ⟨v1, ht2, h⟩ := Option.bind_eq_some_iff.1 h
  refine AOps_callR _ [] (tl_get rfl) rfl rfl rfl rfl Tryz.func8 (by decide) rfl ((.nil)) (law18_small.ok _  S _ ht2) ?_
  rintro _ _ ⟨rfl, e_⟩
  obtain rfl := e_.symm
  refine AOps_forget 0x46 (mkS 28 [(1, .sl 3 (a1.map Col.enc) none), (2, .pt (Conf.enc a0)), (6, bo v1)]) (by kernel_rfl) ?_
  refine AOps_seg 1 0x26 (mkS 28 [(1, .sl 3 (a1.map Col.enc) none), (2, .pt (Conf.enc a0)), (5, bo v1)]) none [] (by kernel_rfl) (by kernel_rfl) trivial ?_
  refine AOps_end ?_
  refine athen_n ?_
  refine AT_seq ?_
  refine AT_draw [14, 17] (by kernel_rfl) ?_
  refine AAny_seg 22 [] 0xfffffb6 (mkS 28 [(1, .sl 3 (a1.map Col.enc) none), (2, .pt (Conf.enc a0)), (5, bo v1)]) none #[false, false, false, false, false, false, false, false, false, false, false, false, false, false, false, false, false, false, false, false, false, false] (by kernel_rfl) trivial (by kernel_rfl) ?_
  refine AAny_seg 20 [0, 1] 0xfffff16 (mkS 28 [(1, .sl 3 (a1.map Col.enc) none), (2, .pt (Conf.enc a0)), (8, bo v1)]) none #[true, true, false, false, false, false, false, false, false, false, false, false, false, false, false, false, false, false, false, false, false, false] (by kernel_rfl) trivial (by kernel_rfl) ?_
  refine AAny_caseS 8 v1 (by kernel_rfl) (mkS 28 [(1, .sl 3 (a1.map Col.enc) none), (2, .pt (Conf.enc a0)), (8, bo true)]) (mkS 28 [(1, .sl 3 (a1.map Col.enc) none), (2, .pt (Conf.enc a0)), (8, bo false)]) (by kernel_rfl) (by kernel_rfl) (fun hc3 => ?_) (fun hc3 => ?_)
  · rw [if_t hc3] at h
    refine AAny_seg 18 [2, 3] 0xffffd16 (mkS 28 [(1, .sl 3 (a1.map Col.enc) none), (2, .pt (Conf.enc a0)), (8, bo true), (10, i64 ((a1.map Col.enc).length : Int))]) none #[true, true, true, true, false, false, false, false, false, false, false, false, false, false, false, false, false, false, false, false, false, false] (by kernel_rfl) trivial (by kernel_rfl) ?_
    refine AAny_to (mkS 28 [(1, .sl 3 (a1.map Col.enc) none), (2, .pt (Conf.enc a0)), (8, bo true), (10, i64 (a1.length : Int))]) (by rw [List.length_map]) ?_
    refine AAny_seg 16 [4, 5] 0xffff116 (mkS 28 [(1, .sl 3 (a1.map Col.enc) none), (2, .pt (Conf.enc a0)), (8, bo true), (12, bo (decide ((a1.length : Int) > 200)))]) none #[true, true, true, true, true, true, false, false, false, false, false, false, false, false, false, false, false, false, false, false, false, false] (by kernel_rfl) trivial (by kernel_rfl) ?_
    refine AAny_caseS 12 (decide ((a1.length : Int) > 200)) (by kernel_rfl) (mkS 28 [(1, .sl 3 (a1.map Col.enc) none), (2, .pt (Conf.enc a0)), (8, bo true), (12, bo true)]) (mkS 28 [(1, .sl 3 (a1.map Col.enc) none), (2, .pt (Conf.enc a0)), (8, bo true), (12, bo false)]) (by kernel_rfl) (by kernel_rfl) (fun hc5 => ?_) (fun hc5 => ?_)
    · rw [if_t hc5] at h
      refine AAny_seg 0 [6, 7, 8, 9, 10, 11, 12, 13, 14, 15, 16, 17, 18, 19, 20, 21] 0x10 (mkS 28 [(4, bo true)]) none #[true, true, true, true, true, true, true, true, true, true, true, true, true, true, true, true, true, true, true, true, true, true] (by kernel_rfl) trivial (by kernel_rfl) ?_
      refine AAny_end (by kernel_rfl) ?_
      refine athen_n ?_
      refine AT_ret ?_
      have e_ := Option.some.inj h
      subst e_
      exact ⟨[bo true], bo true, S, (.of (by kernel_rfl)), D.le.refl _, hB, rfl, rfl⟩
    · rw [if_f hc5] at h
      refine AAny_seg 13 [6, 7, 8] 0xfff9116 (mkS 28 [(1, .sl 3 (a1.map Col.enc) none), (2, .pt (Conf.enc a0)), (8, bo true), (12, bo false), (15, i64 ((a0.Encs.map eI).length : Int))]) none #[true, true, true, true, true, true, true, true, true, false, false, false, false, false, false, false, false, false, false, false, false, false] (by kernel_rfl) trivial (by kernel_rfl) ?_
      refine AAny_to (mkS 28 [(1, .sl 3 (a1.map Col.enc) none), (2, .pt (Conf.enc a0)), (8, bo true), (12, bo false), (15, i64 (a0.Encs.length : Int))]) (by rw [List.length_map]) ?_
      refine AAny_seg 10 [9, 10, 11] 0xffc0116 (mkS 28 [(1, .sl 3 (a1.map Col.enc) none), (2, .pt (Conf.enc a0)), (8, bo true), (18, bo (decide ((a0.Encs.length : Int) > 200)))]) none #[true, true, true, true, true, true, true, true, true, true, true, true, false, false, false, false, false, false, false, false, false, false] (by kernel_rfl) trivial (by kernel_rfl) ?_
      refine AAny_caseS 18 (decide ((a0.Encs.length : Int) > 200)) (by kernel_rfl) (mkS 28 [(1, .sl 3 (a1.map Col.enc) none), (2, .pt (Conf.enc a0)), (8, bo true), (18, bo true)]) (mkS 28 [(1, .sl 3 (a1.map Col.enc) none), (2, .pt (Conf.enc a0)), (8, bo true), (18, bo false)]) (by kernel_rfl) (by kernel_rfl) (fun hc7 => ?_) (fun hc7 => ?_)
      · rw [if_t hc7] at h
        refine AAny_seg 0 [12, 13, 14, 15, 16, 17, 18, 19, 20, 21] 0x10 (mkS 28 [(4, bo true)]) none #[true, true, true, true, true, true, true, true, true, true, true, true, true, true, true, true, true, true, true, true, true, true] (by kernel_rfl) trivial (by kernel_rfl) ?_
        refine AAny_end (by kernel_rfl) ?_
        refine athen_n ?_
        refine AT_ret ?_
        have e_ := Option.some.inj h
        subst e_
        exact ⟨[bo true], bo true, S, (.of (by kernel_rfl)), D.le.refl _, hB, rfl, rfl⟩
      · rw [if_f hc7] at h
        refine AAny_seg 6 [12, 13, 15, 16] 0xffc0110 (mkS 28 [(8, bo true), (18, bo false), (19, .ag (Conf.enc a0)), (20, .sl 3 (a1.map Col.enc) none), (22, .ag (Conf.enc a0)), (23, .sl 3 (a1.map Col.enc) none)]) none #[true, true, true, true, true, true, true, true, true, true, true, true, true, true, false, true, true, false, false, false, false, false] (by kernel_rfl) trivial (by kernel_rfl) ?_
        refine AAny_eff (fuel := 5) 14 (tl_get rfl) (by kernel_rfl) (by kernel_rfl) (by kernel_rfl) ?_
        obtain ⟨v8, ht9, h⟩ := Option.bind_eq_some_iff.1 h
        refine AOps_callR _ [.ag (Conf.enc a0), .sl 3 (a1.map Col.enc) none] (tl_get rfl) rfl rfl rfl rfl Tryz.func15 (by decide) rfl ((.cons (D.le.refl _) (.cons (D.le.refl _) (.nil)))) (layout_Check.ok _ a0 a1 S _ ht9) ?_
        rintro _ _ ⟨rfl, e_⟩
        obtain rfl := e_.symm
        refine AOps_end ⟨rfl, _, rfl, ?_⟩; refine AAny_forget 0xe40100 (mkS 28 [(8, bo true), (18, bo false), (21, i64 v8), (22, .ag (Conf.enc a0)), (23, .sl 3 (a1.map Col.enc) none)]) #[true, true, true, true, true, true, true, true, true, true, true, true, true, true, true, true, true, false, false, false, false, false] (by kernel_rfl) (by kernel_rfl) ?_
        refine AAny_eff (fuel := 4) 17 (tl_get rfl) (by kernel_rfl) (by kernel_rfl) (by kernel_rfl) ?_
        obtain ⟨v10, ht11, h⟩ := Option.bind_eq_some_iff.1 h
        refine AOps_callR _ [.ag (Conf.enc a0), .sl 3 (a1.map Col.enc) none] (tl_get rfl) rfl rfl rfl rfl Tryz.func16 (by decide) rfl ((.cons (D.le.refl _) (.cons (D.le.refl _) (.nil)))) (ref18_Check.ok _ a0 a1 S _ ht11) ?_
        rintro _ _ ⟨rfl, e_⟩
        obtain rfl := e_.symm
        refine AOps_end ⟨rfl, _, rfl, ?_⟩; refine AAny_forget 0x1240100 (mkS 28 [(8, bo true), (18, bo false), (21, i64 v8), (24, i64 v10)]) #[true, true, true, true, true, true, true, true, true, true, true, true, true, true, true, true, true, true, false, false, false, false] (by kernel_rfl) (by kernel_rfl) ?_
        refine AAny_seg 0 [18, 19, 20, 21] 0x10 (mkS 28 [(4, bo (v8 == v10))]) none #[true, true, true, true, true, true, true, true, true, true, true, true, true, true, true, true, true, true, true, true, true, true] (by kernel_rfl) trivial (by kernel_rfl) ?_
        refine AAny_end (by kernel_rfl) ?_
        refine athen_n ?_
        refine AT_ret ?_
        have e_ := Option.some.inj h
        subst e_
        exact ⟨[bo (v8 == v10)], bo (v8 == v10), S, (.of (by kernel_rfl)), D.le.refl _, hB, rfl, rfl⟩
  · rw [if_f hc3] at h
    refine AAny_seg 0 [2, 3, 4, 5, 6, 7, 8, 9, 10, 11, 12, 13, 14, 15, 16, 17, 18, 19, 20, 21] 0x10 (mkS 28 [(4, bo false)]) none #[true, true, true, true, true, true, true, true, true, true, true, true, true, true, true, true, true, true, true, true, true, true] (by kernel_rfl) trivial (by kernel_rfl) ?_
    refine AAny_end (by kernel_rfl) ?_
    refine athen_n ?_
    refine AT_ret ?_
    have e_ := Option.some.inj h
    subst e_
    exact ⟨[bo false], bo false, S, (.of (by kernel_rfl)), D.le.refl _, hB, rfl, rfl⟩
end Go.Proofs.YtjapfalijpfmpaaGreatDoor.Abs
