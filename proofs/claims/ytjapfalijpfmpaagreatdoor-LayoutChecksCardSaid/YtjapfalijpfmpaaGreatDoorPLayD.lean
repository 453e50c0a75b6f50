/- Which configurations may be: the program's answer and the document's are one. -/
import Derived.Test.YtjapfalijpfmpaaGreatDoorPLayC
import Derived.Test.YtjapfalijpfmpaaGreatDoorOpLayoutChecks
namespace Go.Proofs.YtjapfalijpfmpaaGreatDoor.Abs
open Go

theorem fits_same (t e : Int) : ∃ b, values_Fits.f t e = some b ∧ ∀ k, ref14_Fits.f (k + 1) t e = some b := by
  by_cases h1 : t < 0
  · exact ⟨false, by unfold values_Fits.f; simp [h1], fun k => by unfold ref14_Fits.f; simp [h1]⟩
  · by_cases h2 : t > 3
    · exact ⟨false, by unfold values_Fits.f; simp [h1, h2], fun k => by unfold ref14_Fits.f; simp [h1, h2]⟩
    · have ht : t = 0 ∨ t = 1 ∨ t = 2 ∨ t = 3 := by omega
      by_cases e0 : e = 0
      · subst e0
        refine ⟨true, ?_, fun k => ?_⟩
        · rcases ht with rfl | rfl | rfl | rfl <;> rfl
        · rcases ht with rfl | rfl | rfl | rfl <;> rfl
      · by_cases e1 : e = 1
        · subst e1
          refine ⟨true, ?_, fun k => ?_⟩
          · rcases ht with rfl | rfl | rfl | rfl <;> rfl
          · rcases ht with rfl | rfl | rfl | rfl <;> rfl
        · by_cases e2 : e = 2
          · subst e2
            rcases ht with rfl | rfl | rfl | rfl <;> exact ⟨_, rfl, fun k => rfl⟩
          · by_cases e3 : e = 3
            · subst e3
              rcases ht with rfl | rfl | rfl | rfl <;> exact ⟨_, rfl, fun k => rfl⟩
            · by_cases e4 : e = 4
              · subst e4
                rcases ht with rfl | rfl | rfl | rfl <;> exact ⟨_, rfl, fun k => rfl⟩
              · refine ⟨false, ?_, fun k => ?_⟩
                · unfold values_Fits.f
                  rcases ht with rfl | rfl | rfl | rfl <;> simp [e0, e1, e2, e3, e4]
                · unfold ref14_Fits.f
                  rcases ht with rfl | rfl | rfl | rfl <;> simp [e0, e1, e2, e3, e4, ref14_Fits.j0]
theorem rows_f (n : Int) : layout_rows.f n = some (decide (1 ≤ n ∧ n ≤ 65536)) := by
  unfold layout_rows.f
  by_cases h1 : n ≥ 1 <;> by_cases h2 : n ≤ 65536 <;> simp [h1, h2] <;> omega
theorem check_l0 {c : Conf} {l : List Col} (he : c.Encs.length = l.length) (hl : l.length ≤ 200) : ∀ (n k x : Nat), l.length - x ≤ n → n < k → ∃ r, layout_Check.l0 k c l x = some r ∧ ref18_Check.l0 k c l x = some r
  | n, 0, _, _, h => by omega
  | 0, k + 1, x, h, _ => by
    refine ⟨0, ?_, ?_⟩
    · rw [layout_Check.l0, if_neg (nd (by omega))]
    · rw [ref18_Check.l0, if_neg (nd (by omega))]
  | n + 1, k + 1, x, h, h2 => by
    by_cases hx : x < l.length
    · obtain ⟨k', rfl⟩ : ∃ k', k = k' + 1 := ⟨k - 1, by omega⟩
      obtain ⟨r, h3, h4⟩ := check_l0 he hl n (k' + 1) (x + 1) (by omega) (by omega)
      obtain ⟨b, h5, h6⟩ := fits_same (rd l x Col.zero).Type_ (rd c.Encs x 0)
      have e : IntKind.wrap .i64 ((x : Int) + 1) = ((x + 1 : Nat) : Int) := by rw [w_in (by omega) (by omega)]; omega
      have hL : layout_Check.l0 (k' + 1 + 1) c l x = if (rd c.Encs (x : Int) 0 != -1) = true then (if (!b) = true then some 3 else some r) else some r := by
        rw [layout_Check.l0, if_pos (pd (by omega)), if_pos (by omega), e]
        by_cases hm : (rd c.Encs (x : Int) 0 != -1) = true
        · rw [if_pos hm, if_pos hm, if_pos (by omega), h5, Option.bind_some, h3]
        · rw [if_neg hm, if_neg hm, h3]
      have hR : ref18_Check.l0 (k' + 1 + 1) c l x = if (rd c.Encs (x : Int) 0 != -1) = true then (if (!b) = true then some 3 else some r) else some r := by
        rw [ref18_Check.l0, if_pos (pd (by omega)), if_pos (by omega), if_pos (by omega), h6 k', Option.bind_some, if_pos (by omega), e, h4]
      rw [hL, hR]
      split
      · split
        · exact ⟨_, rfl, rfl⟩
        · exact ⟨_, rfl, rfl⟩
      · exact ⟨_, rfl, rfl⟩
    · rw [layout_Check.l0, ref18_Check.l0, if_neg (nd (by omega)), if_neg (nd (by omega))]
      exact ⟨0, rfl, rfl⟩
theorem LayoutChecks_pure (a0 : Conf) (a1 : List Col) (w0 : Conf.wf a0) (w1 : a1.length ≤ maxLen ∧ ∀ x ∈ a1, Col.wf x) : ∃ k, law18_LayoutChecks.f k a0 a1 = some true := by
  refine ⟨1000, ?_⟩
  unfold law18_LayoutChecks.f
  rw [small_ok (by omega), Option.bind_some, if_pos rfl]
  split
  · rfl
  · rename_i h1
    have h1 : ¬ (a1.length : Int) > 200 := by simpa using h1
    split
    · rfl
    · have key : ∃ r, layout_Check.f 1000 a0 a1 = some r ∧ ref18_Check.f 1000 a0 a1 = some r := by
        unfold layout_Check.f ref18_Check.f
        rw [rows_f, Option.bind_some]
        by_cases g1 : 1 ≤ a0.GroupRows ∧ a0.GroupRows ≤ 65536
        · rw [if_neg (by simp [g1]), rows_f, Option.bind_some, if_neg (nd (by omega)), if_neg (nd (by omega))]
          by_cases g2 : 1 ≤ a0.PageRows ∧ a0.PageRows ≤ 65536
          · rw [if_neg (by simp [g2]), if_neg (nd (by omega)), if_neg (nd (by omega))]
            by_cases g3 : a0.Encs.length = a1.length
            · rw [if_neg (nb (by omega)), if_neg (nb (by omega))]
              exact check_l0 g3 (by omega) 200 1000 0 (by omega) (by omega)
            · have : ((a0.Encs.length : Int) != (a1.length : Int)) = true := by simp; omega
              rw [if_pos this, if_pos this]
              exact ⟨1, rfl, rfl⟩
          · rw [if_pos (by simp only [decide_eq_false g2, Bool.not_false])]
            refine ⟨1, rfl, ?_⟩
            by_cases g3 : a0.PageRows < 1
            · rw [if_pos (pd g3)]
            · rw [if_neg (nd g3), if_pos (pd (by omega))]
        · rw [if_pos (by simp only [decide_eq_false g1, Bool.not_false])]
          refine ⟨1, rfl, ?_⟩
          by_cases g3 : a0.GroupRows < 1
          · rw [if_pos (pd g3)]
          · rw [if_neg (nd g3), if_pos (pd (by omega))]
      obtain ⟨r, hr1, hr2⟩ := key
      rw [hr1, Option.bind_some, hr2, Option.bind_some]
      simp
end Go.Proofs.YtjapfalijpfmpaaGreatDoor.Abs
