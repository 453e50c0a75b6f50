/- What functions with rounds tell in the end. -/
import Derived.Test.YtfaojkajlpojlaaAbsY
namespace Go.Proofs.Ytfaojkajlpojlaa.Abs
open Go

/-- From some number of rounds on it tells v. -/
def Ev {α : Type} (f : Nat → Option α) (v : α) : Prop := ∃ K, ∀ k, K ≤ k → f k = some v
variable {α β : Type}
theorem Ev.const (v : α) : Ev (fun _ => some v) v := ⟨0, fun _ _ => rfl⟩
theorem Ev.bind {g : Nat → Option β} {h : Nat → β → Option α} {a : β} {r : α} (hg : Ev g a) (hh : Ev (fun k => h k a) r) : Ev (fun k => (g k).bind (h k)) r := by
  obtain ⟨K, h1⟩ := hg
  obtain ⟨L, h2⟩ := hh
  exact ⟨max K L, fun k hk => by show (g k).bind (h k) = some r; rw [h1 k (by omega)]; exact h2 k (by omega)⟩
theorem Ev.step {f g : Nat → Option α} {v : α} (h : ∀ k, f (k + 1) = g k) (hg : Ev g v) : Ev f v := by
  obtain ⟨K, h1⟩ := hg
  refine ⟨K + 1, fun k hk => ?_⟩
  obtain ⟨j, rfl⟩ : ∃ j, k = j + 1 := ⟨k - 1, by omega⟩
  rw [h]; exact h1 j (by omega)
theorem Ev.congr {f g : Nat → Option α} {v : α} (h : ∀ k, f k = g k) (hg : Ev g v) : Ev f v := by
  obtain ⟨K, h1⟩ := hg
  exact ⟨K, fun k hk => by rw [h k]; exact h1 k hk⟩
theorem Ev.det {f : Nat → Option α} {a b : α} (h : Ev f a) (k : Ev f b) : a = b := by
  obtain ⟨K, h1⟩ := h
  obtain ⟨L, h2⟩ := k
  have := h1 (max K L) (by omega)
  rw [h2 (max K L) (by omega)] at this
  exact (Option.some.inj this).symm
theorem Ev.ex {f : Nat → Option α} {v : α} (h : Ev f v) : ∃ k, f k = some v := let ⟨K, h1⟩ := h; ⟨K, h1 K (Nat.le_refl _)⟩
theorem Ev.of {f : Nat → Option α} {v : α} {k : Nat} (h : f k = some v) (m : ∀ k, LeO (f k) (f (k + 1))) : Ev f v := ⟨k, fun _ hj => mono_le m hj v h⟩
theorem Ev.from_ {f : Nat → Option α} {v : α} (n : Nat) (h : ∀ k, f (k + n) = some v) : Ev f v := ⟨n, fun k hk => by
  obtain ⟨j, rfl⟩ : ∃ j, k = j + n := ⟨k - n, by omega⟩
  exact h j⟩
theorem Ev.if_t {c : Prop} [Decidable c] {a b : Nat → Option α} {v : α} (hc : c) (h : Ev a v) : Ev (fun k => if c then a k else b k) v := by simpa only [if_pos hc] using h
theorem Ev.if_f {c : Prop} [Decidable c] {a b : Nat → Option α} {v : α} (hc : ¬ c) (h : Ev b v) : Ev (fun k => if c then a k else b k) v := by simpa only [if_neg hc] using h

theorem w64_in {n : Int} (h0 : -9223372036854775808 ≤ n) (h1 : n ≤ 9223372036854775807) : IntKind.wrap .i64 n = n := IntWalk.i64_in n ⟨h0, h1⟩
theorem rd_nat (l : List α) (n : Nat) (d : α) : rd l (n : Int) d = l.getD n d := rfl
theorem drop_rd {l : List α} {n : Nat} (d : α) (h : n < l.length) : l.drop n = rd l (n : Int) d :: l.drop (n + 1) := by
  rw [rd_nat, List.drop_eq_getElem_cons h]
  simp [List.getD, List.getElem?_eq_getElem h]
theorem rd_mem {l : List α} {n : Nat} (d : α) (h : n < l.length) : rd l (n : Int) d ∈ l := by
  rw [rd_nat]; simp [List.getD, List.getElem?_eq_getElem h]
theorem wf_i64 {n : Int} (h : (Lit.int .i64 n).wf = true) : -9223372036854775808 ≤ n ∧ n ≤ 9223372036854775807 := by
  simpa [Lit.wf, IntKind.min, IntKind.max, IntKind.signed, IntKind.bits] using h
end Go.Proofs.Ytfaojkajlpojlaa.Abs
