/- What arguments read as: out of a reading, the words of the walks. -/
import Derived.Test.YtfaojkajlpojlaaAbsN
import Derived.Test.YtfaojkajlpojlaaRows
import Derived.ChangeArms
import Derived.OpenShut
namespace Go.Proofs.Ytfaojkajlpojlaa.Abs
open Go Go.RowKit

variable {P : Program}

/-- Readings of a type: a Lean value, what it reads as, what is known of it, how much it holds at most. -/
def OpenT (P : Program) (t : TypeId) {α : Type} (E : α → List D) (wf : α → Prop) (B : α → Nat) : Prop :=
  ∀ (H : Type) (enc : TypeId × Value → H) (W : World) (fuel : Nat) (cs : List Value) (x : DataW H × List MemPlace), DataW.trod enc P W 0 (fun _ => true) true fuel t cs = some x →
    ∃ y : α, RepL (G0 W) (E y) cs ∧ One cs ∧ wf y ∧ B y ≤ Rows.uptoBulk x.1

theorem one1 {v : Value} (h : v.oneCell' = true) : One [v] := fun x hx => by
  rw [List.mem_singleton] at hx
  subst hx
  exact h
theorem rep1 {G : Gh} {v : Value} : RepL G [.lit v] [v] := repL_cons rep_lit repL_nil
theorem openT_int {t : TypeId} {k : IntKind} (ht : P.underlying t = some (.int k)) : OpenT P t (fun n : Int => [.lit (.int k n)]) (fun n => (Lit.int k n).wf = true) (fun _ => 1) := by
  intro H enc W fuel cs x h
  obtain ⟨n, rfl, rfl, hw⟩ := DataW.trod_int ht h
  exact ⟨n, rep1, one1 rfl, hw, by simp [Rows.uptoBulk]⟩
theorem openT_u8 {t : TypeId} (ht : P.underlying t = some (.int .u8)) : OpenT P t eB (fun _ => True) (fun _ => 1) := by
  intro H enc W fuel cs x h
  obtain ⟨n, rfl, rfl, hw⟩ := DataW.trod_int ht h
  have hb := bounds_u8 hw
  refine ⟨UInt8.ofNat n.toNat, ?_, one1 rfl, trivial, by simp [Rows.uptoBulk]⟩
  have : ((UInt8.ofNat n.toNat).toNat : Int) = n := by
    simp only [UInt8.toNat_ofNat']
    omega
  simp only [eB, this]
  exact rep1
theorem openT_bool {t : TypeId} (ht : P.underlying t = some .bool) : OpenT P t eO (fun _ => True) (fun _ => 1) := by
  intro H enc W fuel cs x h
  obtain ⟨b, rfl, rfl⟩ := DataW.trod_bool ht h
  exact ⟨b, rep1, one1 rfl, trivial, by simp [Rows.uptoBulk]⟩
theorem openT_str {t : TypeId} (ht : P.underlying t = some .string) : OpenT P t eS (fun l => l.length ≤ maxLen) (fun l => l.length + 1) := by
  intro H enc W fuel cs x h
  obtain ⟨s, rfl, rfl, hs⟩ := DataW.trod_string ht h
  refine ⟨s.data.toList, ?_, one1 rfl, by simpa using hs, by simp [Rows.uptoBulk]⟩
  simp only [eS]
  exact repL_cons (rep_str _ s) repL_nil

theorem OpenT.map {t : TypeId} {α β : Type} {E : α → List D} {wf : α → Prop} {B : α → Nat} (f : α → β) {E' : β → List D} {wf' : β → Prop} {B' : β → Nat} (h : OpenT P t E wf B) (hE : ∀ x, E x = E' (f x)) (hw : ∀ x, wf x → wf' (f x)) (hB : ∀ x, B' (f x) ≤ B x) :
    OpenT P t E' wf' B' := by
  intro H enc W fuel cs x hx
  obtain ⟨y, h1, h2, h3, h4⟩ := h H enc W fuel cs x hx
  exact ⟨f y, hE y ▸ h1, h2, hw y h3, Nat.le_trans (hB y) h4⟩

/-- Fields behind one another, from an offset on to the struct's end. -/
def OpenF (P : Program) (T : Nat) (fs : List Field) (off : Nat) {α : Type} (E : α → List D) (wf : α → Prop) (B : α → Nat) : Prop :=
  ∀ (H : Type) (enc : TypeId × Value → H) (W : World) (n : Nat) (cs : List Value) (xs : List (DataW H × List MemPlace)), cs.length = T → xs.length = fs.length →
    (∀ (i : Nat) (f : Field), fs[i]? = some f → DataW.trod enc P W 0 (fun _ => true) true n f.type ((cs.drop f.offset).take (P.cellsOf f.type)) = xs[i]?) →
    ∃ y : α, RepL (G0 W) (E y) (cs.drop off) ∧ One (cs.drop off) ∧ wf y ∧ B y ≤ Rows.uptoBulkAll (xs.map (·.1))
theorem openF_one {T off : Nat} {f : Field} {α : Type} {E : α → List D} {wf : α → Prop} {B : α → Nat} (h : OpenT P f.type E wf B) (ho : f.offset = off) (hT : off + P.cellsOf f.type = T) : OpenF P T [f] off E wf B := by
  intro H enc W n cs xs hc hl hx
  have h0 := hx 0 f rfl
  obtain ⟨x, rfl⟩ : ∃ x, xs = [x] := by
    match xs, hl with
    | [x], _ => exact ⟨x, rfl⟩
  rw [ho] at h0
  rw [List.take_of_length_le (by simp; omega)] at h0
  obtain ⟨y, h1, h2, h3, h4⟩ := h H enc W n _ x (by simpa using h0)
  exact ⟨y, h1, h2, h3, by simpa [Rows.uptoBulkAll] using h4⟩
theorem openF_cons {T off : Nat} {f : Field} {fs : List Field} {α β : Type} {E : α → List D} {wf : α → Prop} {B : α → Nat} {E2 : β → List D} {wf2 : β → Prop} {B2 : β → Nat} (h : OpenT P f.type E wf B) (ho : f.offset = off)
    (h2 : OpenF P T fs (off + P.cellsOf f.type) E2 wf2 B2) : OpenF P T (f :: fs) off (fun x : α × β => E x.1 ++ E2 x.2) (fun x => wf x.1 ∧ wf2 x.2) (fun x => B x.1 + B2 x.2) := by
  intro H enc W n cs xs hc hl hx
  have h0 := hx 0 f rfl
  obtain ⟨x, xs', rfl⟩ : ∃ x xs', xs = x :: xs' := by
    match xs, hl with
    | x :: xs', _ => exact ⟨x, xs', rfl⟩
  rw [ho] at h0
  obtain ⟨y, g1, g2, g3, g4⟩ := h H enc W n _ x (by simpa using h0)
  obtain ⟨z, k1, k2, k3, k4⟩ := h2 H enc W n cs xs' hc (by simpa using hl) (fun i f' hf => by simpa using hx (i + 1) f' (by simpa using hf))
  have e : cs.drop off = (cs.drop off).take (P.cellsOf f.type) ++ cs.drop (off + P.cellsOf f.type) := by rw [← List.drop_drop, List.take_append_drop]
  refine ⟨(y, z), ?_, ?_, ⟨g3, k3⟩, ?_⟩
  · rw [e]; exact g1.append k1
  · rw [e]; exact g2.append k2
  · simp only [List.map_cons, Rows.uptoBulkAll]; omega
theorem openT_struct {t : TypeId} {fs : Array Field} {T : Nat} {α : Type} {E : α → List D} {wf : α → Prop} {B : α → Nat} (ht : P.underlying t = some (.struct fs)) (hT : P.cellsOf t = T) (h : OpenF P T fs.toList 0 E wf B) : OpenT P t E wf (fun x => B x + 1) := by
  intro H enc W fuel cs x hx
  obtain ⟨xs, n, rfl, rfl, h1, h2, h3⟩ := DataW.trod_struct ht hx
  obtain ⟨y, g1, g2, g3, g4⟩ := h H enc W n cs xs (by omega) (by simpa using h2) (fun i f hf => h3 i f (by simpa using hf))
  exact ⟨y, by simpa using g1, by simpa using g2, g3, by simp only [Rows.uptoBulk]; omega⟩

theorem spot_none {W : World} {a : Addr} {v : Value} (h : W.cell? a = some v) : a.spot = none := by
  unfold World.cell? at h
  split at h
  · split at h
    · cases h
    · rename_i hs; simpa using hs
  · cases h
theorem cells_get {W : World} {a : Addr} {n : Nat} {cs : List Value} (h : W.cells? 0 a n = some cs) : cs.length = n ∧ ∀ j v, cs[j]? = some v → W.cell? (a.add j) = some v := by
  unfold World.cells? at h
  rw [if_pos (Nat.zero_le _)] at h
  have hl := mapM_some_length h
  simp only [List.length_range] at hl
  refine ⟨hl, fun j v hv => ?_⟩
  have hj : j < n := by
    rcases Nat.lt_or_ge j n with e | e
    · exact e
    · rw [List.getElem?_eq_none (by omega)] at hv; cases hv
  rw [mapM_some_get h j j (by simp [hj])]
  exact hv
theorem add_eq {a : Addr} (h : a.spot = none) (k : Nat) : a.add k = ⟨a.block, a.off + k, none⟩ := by
  unfold Addr.add
  obtain ⟨b, o, s⟩ := a
  simp only at h
  subst h
  split
  · rename_i e; subst e; rfl
  · rfl

def sumB {α : Type} (B : α → Nat) : List α → Nat
  | [] => 0
  | x :: r => B x + sumB B r
theorem bulkAll_append {H : Type} : ∀ (l1 l2 : List (DataW H)), Rows.uptoBulkAll (l1 ++ l2) = Rows.uptoBulkAll l1 + Rows.uptoBulkAll l2
  | [], l2 => by simp [Rows.uptoBulkAll]
  | x :: l1, l2 => by simp [Rows.uptoBulkAll, bulkAll_append l1 l2]; omega
theorem sumB_append {α : Type} (B : α → Nat) : ∀ l1 l2 : List α, sumB B (l1 ++ l2) = sumB B l1 + sumB B l2
  | [], l2 => by simp [sumB]
  | x :: l1, l2 => by simp [sumB, sumB_append B l1 l2]; omega

theorem openT_slice {t e : TypeId} {sz : Nat} {α : Type} {E : α → List D} {wf : α → Prop} {B : α → Nat} (ht : P.underlying t = some (.slice e)) (hc : P.cellsOf e = sz) (hp : 0 < sz) (h : OpenT P e E wf B) :
    OpenT P t (fun l : List α => [.sl sz (l.map E) none]) (fun l => l.length ≤ maxLen ∧ ∀ x ∈ l, wf x) (fun l => sumB B l + 1) := by
  intro H enc W fuel cs x hx
  rcases DataW.trod_slice ht hx with ⟨rfl, rfl⟩ | ⟨a, len, cap, elems, rest, n, rfl, rfl, rfl, _, hlc, hcm, hel, hget, _, _⟩
  · refine ⟨[], repL_cons ?_ repL_nil, one1 rfl, ⟨Nat.zero_le _, fun x hx => by cases hx⟩, by simp [Rows.uptoBulk, sumB]⟩
    simp only [Rep, List.map_nil]
    exact ⟨none, 0, rfl, Nat.le_refl _, fun t ht => (by cases ht), .inl trivial⟩
  · have key : ∀ m, m ≤ len → ∃ (l : List α) (vs : List Value), l.length = m ∧ vs.length = m * sz ∧ RepLL (G0 W) sz (l.map E) vs ∧ (0 < m → a.spot = none) ∧ (∀ i v, vs[i]? = some v → W.cell? ⟨a.block, a.off + i, none⟩ = some v) ∧
        (∀ x ∈ l, wf x) ∧ sumB B l ≤ Rows.uptoBulkAll ((elems.take m).map (·.1)) := by
      intro m
      induction m with
      | zero => intro _; exact ⟨[], [], rfl, by simp, by simp [RepLL], fun h => by omega, fun i v h => (by simp at h), fun x h => (by cases h), by simp [sumB]⟩
      | succ m ih =>
        intro hm
        obtain ⟨l, vs, h1, h2, h3, h4, h5, h6, h7⟩ := ih (by omega)
        have hg := hget m (by omega)
        have hmem : m < elems.length := by omega
        rw [List.getElem?_eq_getElem hmem, hc] at hg
        obtain ⟨cs', g1, g2⟩ := Option.bind_eq_some_iff.1 hg
        obtain ⟨c1, c2⟩ := cells_get g1
        obtain ⟨y, k1, k2, k3, k4⟩ := h H enc W n cs' _ g2
        have hsp : a.spot = none := by
          rcases Nat.eq_zero_or_pos m with e | e
          · subst e
            obtain ⟨v, hv⟩ : ∃ v, cs'[0]? = some v := ⟨cs'[0]'(by omega), List.getElem?_eq_getElem _⟩
            have := spot_none (c2 0 v hv)
            simpa [Addr.add] using this
          · exact h4 e
        refine ⟨l ++ [y], vs ++ cs', by simp [h1], by rw [List.length_append, h2, c1, Nat.add_mul, Nat.one_mul], ?_, fun _ => hsp, ?_, ?_, ?_⟩
        · rw [List.map_append]
          refine h3.append ?_
          simp only [List.map_cons, List.map_nil, RepLL]
          exact ⟨cs', [], by simp, by rw [← k1.length, c1], ⟨k1, k2⟩, rfl⟩
        · intro i v hv
          rcases Nat.lt_or_ge i vs.length with e | e
          · rw [List.getElem?_append_left e] at hv
            exact h5 i v hv
          · rw [List.getElem?_append_right e] at hv
            have := c2 _ v hv
            rw [add_eq hsp, add_eq rfl] at this
            simp only at this
            rw [show a.off + m * sz + (i - vs.length) = a.off + i by omega] at this
            exact this
        · intro x hx
          rcases List.mem_append.1 hx with hx | hx
          · exact h6 x hx
          · rw [List.mem_singleton] at hx; subst hx; exact k3
        · rw [List.take_add_one, List.getElem?_eq_getElem hmem, List.map_append, bulkAll_append, sumB_append]
          simp only [Option.toList_some, List.map_cons, List.map_nil, Rows.uptoBulkAll, sumB]
          omega
    obtain ⟨l, vs, h1, h2, h3, h4, h5, h6, h7⟩ := key len (Nat.le_refl _)
    refine ⟨l, repL_cons ?_ repL_nil, one1 rfl, ⟨by omega, h6⟩, ?_⟩
    · simp only [Rep]
      refine ⟨some a, cap, by rw [List.length_map, h1], by rw [List.length_map, h1]; exact hlc, fun t ht => (by cases ht), ?_⟩
      rcases Nat.eq_zero_or_pos len with e | e
      · left
        have : l = [] := List.length_eq_zero_iff.1 (by omega)
        rw [this]
        rfl
      · exact .inr ⟨a, vs, rfl, h4 e, h3, fun i v hv => h5 i v hv⟩
    · rw [List.take_of_length_le (by omega)] at h7
      simp only [Rows.uptoBulk]
      omega

/-- An argument of one cell; of several. -/
theorem open_one {t : TypeId} {α : Type} {E : α → D} {wf : α → Prop} {B : α → Nat} {H : Type} {enc : TypeId × Value → H} {W : World} {v : Value} {d : DataW H} {p : List MemPlace} (h : OpenT P t (fun x => [E x]) wf B) (hv : v.cells = #[v]) (hr : DataW.Trod enc P W 0 (fun _ => true) true t v d p) :
    ∃ y : α, Rep (G0 W) (E y) v ∧ wf y ∧ B y ≤ Rows.uptoBulk d := by
  obtain ⟨fuel, hf⟩ := hr
  obtain ⟨y, h1, h2, h3, h4⟩ := h H enc W fuel _ _ hf
  rw [hv] at h1
  simp only [RepL] at h1
  obtain ⟨x, r, e, h5, rfl⟩ := h1
  simp only [List.cons.injEq] at e
  exact ⟨y, by rw [e.1]; exact h5, h3, h4⟩
theorem open_ag {t : TypeId} {α : Type} {E : α → List D} {wf : α → Prop} {B : α → Nat} {H : Type} {enc : TypeId × Value → H} {W : World} {cs : Array Value} {d : DataW H} {p : List MemPlace} (h : OpenT P t E wf B) (hr : DataW.Trod enc P W 0 (fun _ => true) true t (.agg cs) d p) :
    ∃ y : α, Rep (G0 W) (.ag (E y)) (.agg cs) ∧ wf y ∧ B y ≤ Rows.uptoBulk d := by
  obtain ⟨fuel, hf⟩ := hr
  obtain ⟨y, h1, h2, h3, h4⟩ := h H enc W fuel _ _ hf
  refine ⟨y, ?_, h3, h4⟩
  simp only [Rep]
  exact ⟨cs.toList, by simp, h1, h2⟩
end Go.Proofs.Ytfaojkajlpojlaa.Abs
