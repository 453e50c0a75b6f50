/- What is owned: objects and rights to append, told as one list. -/
import Derived.Test.YtfaojkajlpojlaaAbsT
namespace Go.Proofs.Ytfaojkajlpojlaa.Abs
open Go Go.RowKit

inductive It where
  | o (k : Nat) (x : Ob)
  | t (k n sz : Nat)
def It.on (S : Store) : It → Prop
  | .o k x => S.ob k = some x
  | .t k n sz => S.tk k = some (n, sz)
def It.id : It → Bool × Nat
  | .o k _ => (true, k)
  | .t k _ _ => (false, k)
def newI (S : Store) (i : Bool × Nat) : Prop := match i with
  | (true, k) => S.ob k = none
  | (false, k) => S.tk k = none

structure Hold (S : Store) (L : List It) : Prop where
  on : ∀ i ∈ L, i.on S
  nd : (L.map It.id).Nodup

/-- S stands where S0 stood: of what S0 had, all but B is as it was; and of what is in B, or is new, L is known. -/
structure Own (S0 : Store) (B : List (Bool × Nat)) (S : Store) (L : List It) : Prop where
  fo : ∀ k x, (true, k) ∉ B → S0.ob k = some x → S.ob k = some x
  ft : ∀ k x, (false, k) ∉ B → S0.tk k = some x → S.tk k = some x
  on : ∀ i ∈ L, i.on S
  nw : ∀ i ∈ L, i.id ∈ B ∨ newI S0 i.id
  nd : (L.map It.id).Nodup

variable {S0 S S' : Store} {B : List (Bool × Nat)} {L : List It}

theorem Hold.own (h : Hold S L) : Own S (L.map It.id) S L := ⟨fun _ _ _ h => h, fun _ _ _ h => h, h.on, fun i hi => .inl (List.mem_map_of_mem hi), h.nd⟩
theorem Own.nil : Own S [] S [] := ⟨fun _ _ _ h => h, fun _ _ _ h => h, fun _ h => by simp at h, fun _ h => by simp at h, List.nodup_nil⟩
theorem Own.holds (h : Own S0 B S L) : Hold S L := ⟨h.on, h.nd⟩
theorem Hold.nil : Hold S [] := ⟨fun _ h => by simp at h, List.nodup_nil⟩

theorem Own.ob (h : Own S0 B S L) (i : Nat) {k : Nat} {x : Ob} (hi : L[i]? = some (.o k x)) : S.ob k = some x := h.on _ (List.mem_of_getElem? hi)
theorem Own.tk (h : Own S0 B S L) (i : Nat) {k n sz : Nat} (hi : L[i]? = some (.t k n sz)) : S.tk k = some (n, sz) := h.on _ (List.mem_of_getElem? hi)

theorem on_old {i : It} {j : Bool × Nat} (hi : i.on S) (hj : newI S j) : i.id ≠ j := by
  intro e
  cases i <;> subst e <;> simp only [It.on, newI, It.id] at * <;> rw [hi] at hj <;> cases hj

/-- All but one stays, and that one is a new one, or of the list. -/
theorem Own.move {i' : It} {L' : List It} (h : Own S0 B S L) (hfo : ∀ k, (true, k) ≠ i'.id → S'.ob k = S.ob k) (hft : ∀ k, (false, k) ≠ i'.id → S'.tk k = S.tk k) (hon : i'.on S')
    (hb : i'.id ∈ B ∨ newI S0 i'.id) (hsub : ∀ i ∈ L', i = i' ∨ (i ∈ L ∧ i.id ≠ i'.id)) (hnd : (L'.map It.id).Nodup) : Own S0 B S' L' where
  fo := fun k x hk hx => by
    by_cases e : (true, k) = i'.id
    · rcases hb with hb | hb
      · exact absurd (e ▸ hb) hk
      · rw [← e] at hb; simp only [newI] at hb; rw [hb] at hx; cases hx
    · rw [hfo k e]; exact h.fo k x hk hx
  ft := fun k x hk hx => by
    by_cases e : (false, k) = i'.id
    · rcases hb with hb | hb
      · exact absurd (e ▸ hb) hk
      · rw [← e] at hb; simp only [newI] at hb; rw [hb] at hx; cases hx
    · rw [hft k e]; exact h.ft k x hk hx
  on := fun i hi => by
    rcases hsub i hi with rfl | ⟨h1, h2⟩
    · exact hon
    · have := h.on i h1
      cases i with
      | o k x => simp only [It.on, It.id] at *; rw [hfo k h2]; exact this
      | t k n sz => simp only [It.on, It.id] at *; rw [hft k h2]; exact this
  nw := fun i hi => by
    rcases hsub i hi with rfl | ⟨h1, h2⟩
    · exact hb
    · exact h.nw i h1
  nd := hnd

theorem Own.fresh_or {j : Bool × Nat} (h : Own S0 B S L) (hj : newI S j) : j ∈ B ∨ newI S0 j := by
  by_cases hb : j ∈ B
  · exact .inl hb
  · refine .inr ?_
    obtain ⟨b, k⟩ := j
    cases b with
    | true =>
      simp only [newI] at *
      cases hx : S0.ob k with
      | none => rfl
      | some x => have := h.fo k x hb hx; rw [hj] at this; cases this
    | false =>
      simp only [newI] at *
      cases hx : S0.tk k with
      | none => rfl
      | some x => have := h.ft k x hb hx; rw [hj] at this; cases this

theorem nd_snoc {i' : It} (h : (L.map It.id).Nodup) (hn : ∀ i ∈ L, i.id ≠ i'.id) : ((L ++ [i']).map It.id).Nodup := by
  rw [List.map_append, List.nodup_append]
  refine ⟨h, by simp, fun a ha b hb => ?_⟩
  obtain ⟨i, hi, rfl⟩ := List.mem_map.1 ha
  simp only [List.map_cons, List.map_nil, List.mem_singleton] at hb
  subst hb
  exact hn i hi
theorem Own.moveN {i' : It} (h : Own S0 B S L) (hfo : ∀ k, (true, k) ≠ i'.id → S'.ob k = S.ob k) (hft : ∀ k, (false, k) ≠ i'.id → S'.tk k = S.tk k) (hon : i'.on S') (hnew : newI S i'.id) : Own S0 B S' (L ++ [i']) :=
  have hne : ∀ i ∈ L, i.id ≠ i'.id := fun i hi => on_old (h.on i hi) hnew
  h.move hfo hft hon (h.fresh_or hnew) (fun i hi => by
    rcases List.mem_append.1 hi with h1 | h1
    · exact .inr ⟨h1, hne i h1⟩
    · exact .inl (List.mem_singleton.1 h1)) (nd_snoc h.nd hne)
theorem Own.tkN {t : Nat} {x : Nat × Nat} (h : Own S0 B S L) (hf : S.tk t = none) (u : Upd S S' t x) : Own S0 B S' (L ++ [.t t x.1 x.2]) :=
  h.moveN (fun k _ => u.ob k) (fun k hk => u.ne k (fun e => hk (by rw [e]; rfl))) (by simp only [It.on]; exact u.at_) hf
theorem Own.obN {k : Nat} {x : Ob} (h : Own S0 B S L) (hf : S.ob k = none) (u : UpdO S S' k x) : Own S0 B S' (L ++ [.o k x]) :=
  h.moveN (fun j hj => u.ne j (fun e => hj (by rw [e]; rfl))) (fun j _ => u.tk j) (by simp only [It.on]; exact u.at_) hf

theorem nd_set {i' : It} : ∀ {L : List It} {i : Nat} {x : It}, L[i]? = some x → x.id = i'.id → (L.set i i').map It.id = L.map It.id
  | [], _, _, h, _ => by simp at h
  | y :: L, 0, x, h, e => by simp at h; subst h; simp [e]
  | y :: L, i + 1, x, h, e => by simp at h; simp [nd_set h e]
theorem mem_set_or {i' j : It} : ∀ {L : List It} {i : Nat} {x : It}, (L.map It.id).Nodup → L[i]? = some x → x.id = i'.id → j ∈ L.set i i' → j = i' ∨ (j ∈ L ∧ j.id ≠ i'.id)
  | [], _, _, _, h, _, _ => by simp at h
  | y :: L, 0, x, hn, h, e, hj => by
    simp at h; subst h
    simp only [List.set_cons_zero, List.mem_cons] at hj
    rcases hj with hj | hj
    · exact .inl hj
    · refine .inr ⟨List.mem_cons_of_mem _ hj, fun e2 => ?_⟩
      simp only [List.map_cons, List.nodup_cons] at hn
      exact hn.1 (List.mem_map.2 ⟨j, hj, e2.trans e.symm⟩)
  | y :: L, i + 1, x, hn, h, e, hj => by
    simp at h
    simp only [List.map_cons, List.nodup_cons] at hn
    simp only [List.set_cons_succ, List.mem_cons] at hj
    rcases hj with rfl | hj
    · exact .inr ⟨List.mem_cons_self, fun e2 => hn.1 (List.mem_map.2 ⟨x, List.mem_of_getElem? h, e.trans e2.symm⟩)⟩
    · rcases mem_set_or hn.2 h e hj with h1 | ⟨h1, h2⟩
      · exact .inl h1
      · exact .inr ⟨List.mem_cons_of_mem _ h1, h2⟩
theorem Own.moveS {i : Nat} {x i' : It} (h : Own S0 B S L) (hi : L[i]? = some x) (e : x.id = i'.id) (hfo : ∀ k, (true, k) ≠ i'.id → S'.ob k = S.ob k) (hft : ∀ k, (false, k) ≠ i'.id → S'.tk k = S.tk k) (hon : i'.on S') : Own S0 B S' (L.set i i') :=
  h.move hfo hft hon (e ▸ h.nw x (List.mem_of_getElem? hi)) (fun _ hj => mem_set_or h.nd hi e hj) (by rw [nd_set hi e]; exact h.nd)
theorem Own.tkS {t n sz : Nat} {x : Nat × Nat} (h : Own S0 B S L) (i : Nat) (hi : L[i]? = some (.t t n sz)) (u : Upd S S' t x) : Own S0 B S' (L.set i (.t t x.1 x.2)) :=
  h.moveS hi rfl (fun k _ => u.ob k) (fun k hk => u.ne k (fun e => hk (by rw [e]; rfl))) (by simp only [It.on]; exact u.at_)
theorem Own.obS {k : Nat} {x y : Ob} (h : Own S0 B S L) (i : Nat) (hi : L[i]? = some (.o k y)) (u : UpdO S S' k x) : Own S0 B S' (L.set i (.o k x)) :=
  h.moveS hi rfl (fun j hj => u.ne j (fun e => hj (by rw [e]; rfl))) (fun j _ => u.tk j) (by simp only [It.on]; exact u.at_)

/-- Items of some places. -/
def pickI (L : List It) (is : List Nat) : List It := is.filterMap fun i => L[i]?
theorem pick_mem {is : List Nat} {i : It} (h : i ∈ pickI L is) : i ∈ L := by
  obtain ⟨j, _, hj⟩ := List.mem_filterMap.1 h
  exact List.mem_of_getElem? hj
theorem nd_get {i j : Nat} {x y : It} (hn : (L.map It.id).Nodup) (hi : L[i]? = some x) (hj : L[j]? = some y) (e : x.id = y.id) : i = j := by
  have hi' : i < (L.map It.id).length := by rw [List.length_map]; exact (List.getElem?_eq_some_iff.1 hi).1
  have : (L.map It.id)[i]? = (L.map It.id)[j]? := by rw [List.getElem?_map, List.getElem?_map, hi, hj]; simp [e]
  exact (List.getElem?_inj hi' hn).1 this
theorem pick_nd (hn : (L.map It.id).Nodup) : ∀ {is : List Nat}, is.Nodup → ((pickI L is).map It.id).Nodup
  | [], _ => by simp [pickI]
  | i :: is, h => by
    rw [List.nodup_cons] at h
    have ih := pick_nd hn h.2
    simp only [pickI, List.filterMap_cons]
    split
    · exact ih
    · rename_i x hx
      rw [List.map_cons, List.nodup_cons]
      refine ⟨fun hm => ?_, ih⟩
      obtain ⟨y, hy, e⟩ := List.mem_map.1 hm
      obtain ⟨j, hj, hy⟩ := List.mem_filterMap.1 hy
      exact h.1 (nd_get hn hx hy e.symm ▸ hj)
theorem Own.sub (h : Own S0 B S L) (is : List Nat) {L' : List It} (hn : is.Nodup) (hL : pickI L is = L') : Own S0 B S L' := by
  subst hL
  exact ⟨h.fo, h.ft, fun i hi => h.on i (pick_mem hi), fun i hi => h.nw i (pick_mem hi), pick_nd h.nd hn⟩
theorem Own.to (h : Own S0 B S L) {L' : List It} (hL : L = L') : Own S0 B S L' := hL ▸ h
theorem Own.have_ (h : Own S0 B S L) (is : List Nat) {L' : List It} (hn : is.Nodup) (hL : pickI L is = L') : Hold S L' := (h.sub is hn hL).holds

/-- Behind a call that was given some of it: what it left, then the others. -/
theorem Own.call {L1 L2 LR : List It} (h : Own S0 B S L) (is js : List Nat) (hn : (is ++ js).Nodup) (h1 : pickI L is = L1) (h2 : Own S (L1.map It.id) S' L2) (hR : pickI L js = LR) : Own S0 B S' (L2 ++ LR) := by
  subst h1; subst hR
  have hd : ∀ i ∈ pickI L js, i.id ∉ (pickI L is).map It.id := fun i hi hm => by
    obtain ⟨y, hy, e⟩ := List.mem_map.1 hm
    obtain ⟨j, hj, hx⟩ := List.mem_filterMap.1 hi
    obtain ⟨j2, hj2, hy⟩ := List.mem_filterMap.1 hy
    have := nd_get h.nd hx hy e.symm
    subst this
    exact (List.nodup_append.1 hn).2.2 _ hj2 _ hj rfl
  have hB : ∀ j, j ∈ (pickI L is).map It.id → j ∈ B ∨ newI S0 j := fun j hj => by
    obtain ⟨y, hy, rfl⟩ := List.mem_map.1 hj
    exact h.nw y (pick_mem hy)
  refine ⟨fun k x hk hx => ?_, fun k x hk hx => ?_, fun i hi => ?_, fun i hi => ?_, ?_⟩
  · refine h2.fo k x (fun hm => ?_) (h.fo k x hk hx)
    rcases hB _ hm with e | e
    · exact hk e
    · simp only [newI] at e; rw [e] at hx; cases hx
  · refine h2.ft k x (fun hm => ?_) (h.ft k x hk hx)
    rcases hB _ hm with e | e
    · exact hk e
    · simp only [newI] at e; rw [e] at hx; cases hx
  · rcases List.mem_append.1 hi with hi | hi
    · exact h2.on i hi
    · have ho := h.on i (pick_mem hi)
      have hb := hd i hi
      cases i with
      | o k x => exact h2.fo k x hb ho
      | t k n sz => exact h2.ft k _ hb ho
  · rcases List.mem_append.1 hi with hi | hi
    · rcases h2.nw i hi with e | e
      · exact hB _ e
      · exact h.fresh_or e
    · exact h.nw i (pick_mem hi)
  · rw [List.map_append, List.nodup_append]
    refine ⟨h2.nd, pick_nd h.nd (List.nodup_append.1 hn).2.1, fun a ha b hb e => ?_⟩
    subst e
    obtain ⟨i, hi, rfl⟩ := List.mem_map.1 ha
    obtain ⟨j, hj, e⟩ := List.mem_map.1 hb
    rcases h2.nw i hi with e2 | e2
    · exact hd j hj (e ▸ e2)
    · exact on_old (h.on j (pick_mem hj)) e2 e

theorem Own.gone {k : Nat} {L' : List It} (h : Own S0 B S L) (i : Nat) (hi' : (L[i]?).map It.id = some (true, k)) (u : Gone S S' k) (is : List Nat) (hn : (i :: is).Nodup) (hL : pickI L is = L') : Own S0 B S' L' := by
  subst hL
  obtain ⟨y, hi, ey⟩ : ∃ y, L[i]? = some y ∧ y.id = (true, k) := by
    cases hx : L[i]? with
    | none => simp [hx] at hi'
    | some x => simp [hx] at hi'; exact ⟨x, rfl, hi'⟩
  rw [List.nodup_cons] at hn
  have hid := h.nw _ (List.mem_of_getElem? hi)
  rw [ey] at hid
  have hne : ∀ j ∈ pickI L is, j.id ≠ (true, k) := fun j hj e => by
    obtain ⟨m, hm, hx⟩ := List.mem_filterMap.1 hj
    exact hn.1 (nd_get h.nd hi hx (ey.trans e.symm) ▸ hm)
  refine ⟨fun m x hm hx => ?_, fun m x hm hx => ?_, fun j hj => ?_, fun j hj => h.nw j (pick_mem hj), pick_nd h.nd hn.2⟩
  · have : m ≠ k := fun e => by
      subst e
      rcases hid with e | e
      · exact hm e
      · simp only [newI] at e; rw [e] at hx; cases hx
    rw [u.ne m this]; exact h.fo m x hm hx
  · rw [u.tk]; exact h.ft m x hm hx
  · have h1 := h.on j (pick_mem hj)
    have h2 := hne j hj
    cases j with
    | o m x => simp only [It.on, It.id] at *; rw [u.ne m (fun e => h2 (by rw [e]))]; exact h1
    | t m n sz => simp only [It.on] at *; rw [u.tk]; exact h1

end Go.Proofs.Ytfaojkajlpojlaa.Abs
