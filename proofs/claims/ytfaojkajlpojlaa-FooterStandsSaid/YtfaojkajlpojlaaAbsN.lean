/- Regions that draw their order: where all but one at a time is pure, one walk serves every order. -/
import Derived.Test.YtfaojkajlpojlaaAbsM
import Derived.OrdersHeld
import Derived.Still
namespace Go.Proofs.Ytfaojkajlpojlaa.Abs
open Go Go.RowKit

variable {P : Program} {S : Store} {G : Gh} {w : World} {Q : Exit → List D → Store → Prop} {sl : List D} {ops : Array Oper}

def mkD (L : List Nat) : List D → Nat → List D
  | [], _ => []
  | d :: r, i => (if L.contains i then d else .any) :: mkD L r (i + 1)
theorem mkD_le (L : List Nat) : ∀ (l : List D) (i : Nat), LeL l (mkD L l i)
  | [], _ => .nil
  | d :: r, i => by
    refine .cons ?_ (mkD_le L r (i + 1))
    split
    · exact D.le.refl d
    · exact D.le_any d
theorem mkD_set (L : List Nat) (x : D) : ∀ (l : List D) (d i : Nat), i + d ∉ L → mkD L (l.set d x) i = mkD L l i
  | [], _, _, _ => rfl
  | y :: r, 0, i, h => by
    have : L.contains i = false := by
      cases hc : L.contains i with
      | false => rfl
      | true => exact absurd (by simpa using hc) h
    simp only [List.set_cons_zero, mkD, this, Bool.false_eq_true, if_false]
  | y :: r, d + 1, i, h => by
    simp only [List.set_cons_succ, mkD]
    rw [mkD_set L x r d (i + 1) (by rwa [show i + 1 + d = i + (d + 1) by omega])]
theorem mkD_mono (L : List Nat) {l l' : List D} (h : LeL l l') : ∀ i, LeL (mkD L l i) (mkD L l' i) := by
  induction h with
  | nil => intro i; exact .nil
  | cons h1 _ ih =>
    intro i
    refine .cons ?_ (ih (i + 1))
    split
    · exact h1
    · exact D.le.refl _
def vis (ops : Array Oper) (o : Oper) (sl : List D) : List D := mkD (o.looksAt ops) sl 0
theorem vis_le (o : Oper) (sl : List D) : LeL sl (vis ops o sl) := mkD_le _ sl 0
theorem vis_mono (o : Oper) {sl sl' : List D} (h : LeL sl sl') : LeL (vis ops o sl) (vis ops o sl') := mkD_mono _ h 0
theorem vis_put (o : Oper) (sl : List D) (dst : Option Tmp) (x : D) (h : ∀ d, dst = some d → d ∉ o.looksAt ops) : vis ops o (aput sl dst x) = vis ops o sl := by
  cases dst with
  | none => rfl
  | some d => exact mkD_set _ x sl d 0 (by simpa using h d rfl)

def OffX (ops : Array Oper) (o : Oper) (ml : List D) : Prop := ∀ (G : Gh) (a : Act), RepL G ml a.tmps.toList → Region.wanted o (yielded ops a.tmps) = false
def PureX (P : Program) (ops : Array Oper) (o : Oper) (ml : List D) (d : D) : Prop :=
  ∀ (G : Gh) (a : Act) (w : World), RepL G ml a.tmps.toList → (∀ b o v, G.im b o = some v → w.cell? ⟨b, o, none⟩ = some v) →
    Region.wanted o (yielded ops a.tmps) = true ∧ ∃ v, (execOp a.eval o).run P w = .ok (.value v) w ∧ Rep G d v
def ReadX (P : Program) (ops : Array Oper) (o : Oper) (ml : List D) (S : Store) (d : D) : Prop :=
  ∀ (G : Gh) (a : Act) (w : World), Sim S G w → RepL G ml a.tmps.toList → Region.wanted o (yielded ops a.tmps) = true ∧ ∃ v, (execOp a.eval o).run P w = .ok (.value v) w ∧ Rep G d v
def EffX (P : Program) (ops : Array Oper) (o : Oper) (ml : List D) (S : Store) (K : D → Store → Prop) : Prop :=
  ∀ (G : Gh) (a : Act) (w : World), Sim S G w → RepL G ml a.tmps.toList → a.defers = [] → Region.wanted o (yielded ops a.tmps) = true ∧
    o.wp P a w (fun a' w' => ∃ u d S' G', a' = a.put o.dst u ∧ Ext G G' ∧ Sim S' G' w' ∧ Rep G' d u ∧ K d S') (fun _ _ _ => False)

def DStep (P : Program) (ops : Array Oper) (E : List Nat) (i : Nat) (K : List D → Store → Prop) (sl : List D) (S : Store) : Prop :=
  ∃ o, ops[i]? = some o ∧ (
    (OffX ops o (vis ops o sl) ∧ K (aput sl o.dst (.lit (.tuple #[]))) S) ∨
    (∃ d, PureX P ops o (vis ops o sl) d ∧ K (aput sl o.dst d) S) ∨
    (∃ d, ReadX P ops o (vis ops o sl) S d ∧ K (aput sl o.dst d) S) ∨
    (i ∈ E ∧ EffX P ops o (vis ops o sl) S fun d S' => K (aput sl o.dst d) S'))

/-- Whatever order is picked from here on. -/
def IOk (st : Nat) (I : Store → Prop) (listed : Array Bool) (S : Store) : Prop := listed.getD st false = true ∨ I S
/-- Whatever order is picked from here on; I holds until st is done. -/
def AAny (P : Program) (ops : Array Oper) (E : List Nat) (st : Nat) (I : Store → Prop) (Q : List D → Store → Prop) : Nat → Array Bool → List D → Store → Prop
  | 0, listed, sl, S => IOk st I listed S ∧ Region.ready .any ops listed = [] ∧ Q sl S
  | fuel + 1, listed, sl, S => IOk st I listed S ∧ (Region.ready .any ops listed = [] → Q sl S) ∧
      ∀ i ∈ Region.ready .any ops listed, DStep P ops E i (AAny P ops E st I Q fuel (listed.setIfInBounds i true)) sl S

/-! ### It serves the machine -/
theorem upon_false {o : Oper} {a : Act} {K K' : Act → World → Prop} {Q' : Exit → Act → World → Prop} (hk : ∀ a w, K a w → K' a w) (h : o.wp P a w K (fun _ _ _ => False)) : o.wp P a w K' Q' :=
  Oper.upon_mono2 hk (fun _ _ _ x => x.elim) _ h
/-- What is wanted behind a region, of slots that say no less. -/
def RQ (Q : Exit → List D → Store → Prop) (sl : List D) (S : Store) : Prop := ∃ sl', LeL sl sl' ∧ Q .normal sl' S
theorem RQ.lift {G0 G : Gh} {a : Act} (he : Ext G0 G) (hs : Sim S G w) (hr : RepL G sl a.tmps.toList) (hd : a.defers = []) (h : RQ Q sl S) : liftQ G0 Q .normal a w := by
  obtain ⟨sl', h1, h2⟩ := h
  exact liftQ_ext he (liftQ_mk hs (h1.rep hr) hd trivial h2)
theorem wpAny_of {G0 : Gh} {E : List Nat} {st : Nat} {I : Store → Prop} : ∀ (fuel : Nat) (listed : Array Bool) (G : Gh) (a : Act) (w : World) (sl : List D) (S : Store), AAny P ops E st I (RQ Q) fuel listed sl S → Ext G0 G → Sim S G w → RepL G sl a.tmps.toList → a.defers = [] →
    wpAny P .any ops (liftQ G0 Q) fuel listed a w
  | 0, listed, G, a, w, sl, S, h, he, hs, hr, hd => ⟨h.2.1, RQ.lift he hs hr hd h.2.2⟩
  | fuel + 1, listed, G, a, w, sl, S, h, he, hs, hr, hd => by
    refine ⟨fun h0 => RQ.lift he hs hr hd (h.2.1 h0), fun i hi => ?_⟩
    obtain ⟨o, ho, hc⟩ := h.2.2 i hi
    have hv := (vis_le (ops := ops) o sl).rep hr
    unfold wpOp
    simp only [ho]
    rcases hc with ⟨h1, h2⟩ | ⟨d, h1, h2⟩ | ⟨d, h1, h2⟩ | ⟨_, h1⟩
    · rw [if_neg (by rw [h1 G a hv]; decide)]
      exact wpAny_of fuel _ G _ w _ S h2 he hs (aput_rep hr _ (by simp [Rep, undef])) (by rw [put_defers]; exact hd)
    · obtain ⟨h3, v, h4, h5⟩ := h1 G a w hv hs.im
      rw [if_pos h3]
      refine .inl ?_
      simp only [Oper.wp, h4, Oper.upon_value]
      exact wpAny_of fuel _ G _ w _ S h2 he hs (aput_rep hr _ h5) (by rw [put_defers]; exact hd)
    · obtain ⟨h3, v, h4, h5⟩ := h1 G a w hs hv
      rw [if_pos h3]
      refine .inl ?_
      simp only [Oper.wp, h4, Oper.upon_value]
      exact wpAny_of fuel _ G _ w _ S h2 he hs (aput_rep hr _ h5) (by rw [put_defers]; exact hd)
    · obtain ⟨h3, h4⟩ := h1 G a w hs hv hd
      rw [if_pos h3]
      refine .inl (upon_false ?_ h4)
      rintro a' w' ⟨u, d, S', G', rfl, he', hs', hu, hK⟩
      exact wpAny_of fuel _ G' _ w' _ S' hK (he.trans he') hs' (aput_rep (hr.ext he') _ hu) (by rw [put_defers]; exact hd)

theorem AT_draw {id : Nat} (E : List Nat) (st : Nat) (I : Store → Prop) (hm : P.follows .mixedOrders = true) (h : AAny P ops E st I (RQ Q) ops.size (Array.replicate ops.size false) sl S) : AT P (.region id ops true) Q sl S := by
  intro G w a hs hr hd
  exact wp_region_any hm (wpAny_of _ _ G a _ sl S h (Ext.refl G) hs.drew hr hd)

/-! ### What may be taken first -/
theorem EffX.mono {o : Oper} {ml : List D} {K K' : D → Store → Prop} (h : ∀ d S, K d S → K' d S) (x : EffX P ops o ml S K) : EffX P ops o ml S K' := fun G a w hs hr hd => by
  obtain ⟨h1, h2⟩ := x G a w hs hr hd
  exact ⟨h1, upon_false (fun a' w' ⟨u, d, S', G', e1, e2, e3, e4, e5⟩ => ⟨u, d, S', G', e1, e2, e3, e4, h _ _ e5⟩) h2⟩

theorem aput_comm (sl : List D) {x y : Option Tmp} (v u : D) (h : ∀ d, x = some d → y ≠ some d) : aput (aput sl x v) y u = aput (aput sl y u) x v := by
  cases x with
  | none => rfl
  | some d =>
    cases y with
    | none => rfl
    | some d' =>
      have : d ≠ d' := fun e => h d rfl (by rw [e])
      exact List.set_comm _ _ this

/-- What an operation that may be taken first leaves. -/
def Now (P : Program) (ops : Array Oper) (I : Store → Prop) (rd ri : Bool) (o : Oper) (sl : List D) (S : Store) (d : D) : Prop :=
  (OffX ops o (vis ops o sl) ∧ d = .lit (.tuple #[])) ∨ PureX P ops o (vis ops o sl) d ∨ (rd = true ∧ ReadX P ops o (vis ops o sl) S d) ∨ (ri = true ∧ ∀ S', I S' → ReadX P ops o (vis ops o sl) S' d)

theorem Now.step {E : List Nat} {I : Store → Prop} {rd ri : Bool} {i : Nat} {o : Oper} {d : D} {K : List D → Store → Prop} (hi : ops[i]? = some o) (h : Now P ops I rd ri o sl S d) (hI : ri = true → I S) (hK : K (aput sl o.dst d) S) : DStep P ops E i K sl S := by
  refine ⟨o, hi, ?_⟩
  have h : (OffX ops o (vis ops o sl) ∧ d = .lit (.tuple #[])) ∨ PureX P ops o (vis ops o sl) d ∨ (rd = rd ∧ ReadX P ops o (vis ops o sl) S d) := by
    rcases h with h | h | h | h
    · exact .inl h
    · exact .inr (.inl h)
    · exact .inr (.inr ⟨rfl, h.2⟩)
    · exact .inr (.inr ⟨rfl, h.2 S (hI h.1)⟩)
  rcases h with ⟨h1, rfl⟩ | h1 | ⟨_, h1⟩
  · exact .inl ⟨h1, hK⟩
  · exact .inr (.inl ⟨d, h1, hK⟩)
  · exact .inr (.inr (.inl ⟨d, h1, hK⟩))

theorem AAny_first {E : List Nat} {st : Nat} {I : Store → Prop} {R : List D → Store → Prop} {rd ri : Bool} {i : Nat} {oi : Oper} {d : D} (hi : ops[i]? = some oi) :
    ∀ (fuel : Nat) (listed : Array Bool) (sl : List D) (S : Store),
      (∀ j oj, ops[j]? = some oj → j ≠ i → listed.getD j true = false → (∀ e ∈ oj.after, Region.binds .any e = true → e.on ≠ i) → oi.apart ops oj = true ∧ (rd = true → j ∉ E)) →
      i ≠ st → (ri = true → listed.getD st false = false ∧ ∀ o, ops[st]? = some o → ∃ e ∈ o.after, Region.binds .any e = true ∧ e.on = i) →
      i ∈ Region.ready .any ops listed → Now P ops I rd ri oi sl S d →
      AAny P ops E st I R fuel (listed.setIfInBounds i true) (aput sl oi.dst d) S → AAny P ops E st I R (fuel + 1) listed sl S := by
  intro fuel
  induction fuel with
  | zero =>
    intro listed sl S _ hst hri hr hy H
    have hs0 : (listed.setIfInBounds i true).getD st false = listed.getD st false := getD_set_ne false hst
    have h0 : IOk st I listed S := by have := H.1; unfold IOk at *; rwa [hs0] at this
    have hJ : ri = true → I S := fun e => h0.resolve_left (by rw [(hri e).1]; decide)
    refine ⟨h0, fun h => (by rw [h] at hr; cases hr), fun j hj => ?_⟩
    by_cases hji : j = i
    · subst hji; exact hy.step hi hJ H
    · have := ready_mono hj hji
      rw [H.2.1] at this
      cases this
  | succ fuel ih =>
    intro listed sl S hfree hst hri hr hy H
    have hs0 : (listed.setIfInBounds i true).getD st false = listed.getD st false := getD_set_ne false hst
    have h0 : IOk st I listed S := by have := H.1; unfold IOk at *; rwa [hs0] at this
    have hJ : ri = true → I S := fun e => h0.resolve_left (by rw [(hri e).1]; decide)
    refine ⟨h0, fun h => (by rw [h] at hr; cases hr), fun j hj => ?_⟩
    by_cases hji : j = i
    · subst hji; exact hy.step hi hJ H
    · obtain ⟨hjun, oj, hoj, hall⟩ := mem_ready.1 hj
      obtain ⟨oj', hoj', hc⟩ := H.2.2 j (ready_mono hj hji)
      rw [hoj] at hoj'
      cases hoj'
      have hnot : ∀ e ∈ oj.after, Region.binds .any e = true → e.on ≠ i := fun e he hb heq => by
        have h1 := hall e he hb
        have h0 := (mem_ready.1 hr).1
        rw [heq] at h1
        rcases Nat.lt_or_ge i listed.size with h' | h'
        · simp [h'] at h0 h1; rw [h0] at h1; cases h1
        · simp [Array.getElem?_eq_none h'] at h1
      obtain ⟨hap, hrdE⟩ := hfree j oj hoj hji hjun hnot
      obtain ⟨a1, a2, a3⟩ := Oper.apart_spec hap
      rw [vis_put oj sl oi.dst d a1] at hc
      have hfree' : ∀ k ok, ops[k]? = some ok → k ≠ i → (listed.setIfInBounds j true).getD k true = false →
          (∀ e ∈ ok.after, Region.binds .any e = true → e.on ≠ i) → oi.apart ops ok = true ∧ (rd = true → k ∉ E) := fun k ok hk hki hun hno => by
        refine hfree k ok hk hki ?_ hno
        by_cases hjk : j = k
        · subst hjk; exact hjun
        · rw [getD_set_ne true hjk] at hun; exact hun
      have hri' : ri = true → (listed.setIfInBounds j true).getD st false = false ∧ ∀ o, ops[st]? = some o → ∃ e ∈ o.after, Region.binds .any e = true ∧ e.on = i := fun e => by
        obtain ⟨q1, q2⟩ := hri e
        refine ⟨?_, q2⟩
        have hjs : j ≠ st := fun ejs => by
          subst ejs
          obtain ⟨e2, h1, h2, h3⟩ := q2 oj hoj
          exact hnot e2 h1 h2 h3
        rw [getD_set_ne false hjs]; exact q1
      have next : ∀ (d' : D) (S' : Store), Now P ops I rd ri oi (aput sl oj.dst d') S' d → AAny P ops E st I R fuel ((listed.setIfInBounds i true).setIfInBounds j true) (aput (aput sl oi.dst d) oj.dst d') S' →
          AAny P ops E st I R (fuel + 1) (listed.setIfInBounds j true) (aput sl oj.dst d') S' := fun d' S' hy' hK => by
        refine ih (listed.setIfInBounds j true) _ S' hfree' hst hri' (ready_mono hr (Ne.symm hji)) hy' ?_
        rw [Array.setIfInBounds_comm _ _ hji, ← aput_comm sl d d' a2]
        exact hK
      have hv : ∀ d', vis ops oi (aput sl oj.dst d') = vis ops oi sl := fun d' => vis_put oi sl oj.dst d' a3
      have same : ∀ d', Now P ops I rd ri oi (aput sl oj.dst d') S d := fun d' => by
        unfold Now at hy ⊢
        rw [hv d']
        exact hy
      refine ⟨oj, hoj, ?_⟩
      rcases hc with ⟨h1, h2⟩ | ⟨d', h1, h2⟩ | ⟨d', h1, h2⟩ | ⟨hE, h1⟩
      · exact .inl ⟨h1, next _ _ (same _) h2⟩
      · exact .inr (.inl ⟨d', h1, next _ _ (same _) h2⟩)
      · exact .inr (.inr (.inl ⟨d', h1, next _ _ (same _) h2⟩))
      · refine .inr (.inr (.inr ⟨hE, h1.mono fun d' S' hK => next d' S' ?_ hK⟩))
        have hrd : rd = false := by
          cases rd with
          | false => rfl
          | true => exact absurd hE (hrdE rfl)
        unfold Now at hy ⊢
        rw [hv d']
        rcases hy with hy | hy | ⟨hy, _⟩ | hy
        · exact .inl hy
        · exact .inr (.inl hy)
        · rw [hrd] at hy; cases hy
        · exact .inr (.inr (.inr hy))

/-- May it be taken first? -/
def freeD (ops : Array Oper) (E : List Nat) (st : Nat) (rd : Bool) (listed : Array Bool) (i : Nat) : Bool :=
  (Region.ready .any ops listed).contains i && Region.free .any ops listed i && !(i == st) &&
    (!rd || (List.range ops.size).all fun j => j == i || listed.getD j true || !E.contains j || match ops[j]? with
      | some oj => oj.after.any (fun e => Region.binds .any e && e.on == i)
      | none => true)
theorem AAny_take {E : List Nat} {st : Nat} {I : Store → Prop} {R : List D → Store → Prop} {rd ri : Bool} {i : Nat} {oi : Oper} {d : D} {fuel : Nat} {listed : Array Bool} (hi : ops[i]? = some oi) (hf : freeD ops E st rd listed i = true) (hri : ri = true → listed.getD st false = false ∧ ∀ o, ops[st]? = some o → ∃ e ∈ o.after, Region.binds .any e = true ∧ e.on = i) (hn : Now P ops I rd ri oi sl S d)
    (h : AAny P ops E st I R fuel (listed.setIfInBounds i true) (aput sl oi.dst d) S) : AAny P ops E st I R (fuel + 1) listed sl S := by
  simp only [freeD, Bool.and_eq_true] at hf
  obtain ⟨⟨⟨h1, h2⟩, h2s⟩, h3⟩ := hf
  refine AAny_first hi fuel listed sl S (fun j oj hj hji hun hno => ⟨Region.free_spec hi h2 j oj hj hji hun hno, fun hrd hE => ?_⟩) (by simpa using h2s) hri (by simpa using h1) hn h
  subst hrd
  simp only [Bool.not_true, Bool.false_or, List.all_eq_true, List.mem_range] at h3
  have h4 := h3 j (Array.getElem?_eq_some_iff.1 hj).1
  have h5 : E.contains j = true := by simpa using hE
  simp only [hj, Bool.or_eq_true, beq_iff_eq, hji, false_or, hun, Bool.false_eq_true, h5, Bool.not_true] at h4
  rw [Array.any_eq_true'] at h4
  obtain ⟨e, he, hb⟩ := h4
  simp only [Bool.and_eq_true, beq_iff_eq] at hb
  exact hno e he hb.1 hb.2

/-- Pure operations, as far as told. -/
def dRun (P : Program) (ops : Array Oper) (E : List Nat) (st : Nat) : List Nat → Array Bool → List D → Option (Array Bool × List D × Option Prop)
  | [], listed, sl => some (listed, sl, none)
  | i :: r, listed, sl =>
    match ops[i]? with
    | none => none
    | some o =>
      if freeD ops E st false listed i then
        match awanted ops (vis ops o sl) o with
        | none => none
        | some false => dRun P ops E st r (listed.setIfInBounds i true) (aput sl o.dst (.lit (.tuple #[])))
        | some true =>
          match aop P (vis ops o sl) o.op with
          | none => none
          | some (d, φ) =>
            match dRun P ops E st r (listed.setIfInBounds i true) (aput sl o.dst d) with
            | none => none
            | some (l', sl', ψ) => some (l', sl', andO φ ψ)
      else none
theorem AAny_run {E : List Nat} {st : Nat} {I : Store → Prop} {R : List D → Store → Prop} {fuel : Nat} : ∀ (l : List Nat) (listed : Array Bool) (sl : List D) (l' : Array Bool) (sl' : List D) (φ : Option Prop), dRun P ops E st l listed sl = some (l', sl', φ) → CondOk φ →
    AAny P ops E st I R fuel l' sl' S → AAny P ops E st I R (fuel + l.length) listed sl S
  | [], listed, sl, l', sl', φ, h, hφ, k => by
    simp only [dRun, Option.some.injEq, Prod.mk.injEq] at h
    obtain ⟨rfl, rfl, _⟩ := h
    exact k
  | i :: r, listed, sl, l', sl', φ, h, hφ, k => by
    simp only [dRun] at h
    cases ho : ops[i]? with
    | none => simp [ho] at h
    | some o =>
      simp only [ho] at h
      split at h
      · rename_i hf
        rw [List.length_cons, ← Nat.add_assoc]
        cases hw : awanted ops (vis ops o sl) o with
        | none => simp [hw] at h
        | some b =>
          cases b with
          | false =>
            simp only [hw] at h
            exact AAny_take (ri := false) ho hf (fun e => by cases e) (.inl ⟨fun G a hr => awanted_sound hr hw, rfl⟩) (AAny_run r _ _ _ _ _ h hφ k)
          | true =>
            simp only [hw] at h
            cases ha : aop P (vis ops o sl) o.op with
            | none => simp [ha] at h
            | some p =>
              obtain ⟨d, ψ⟩ := p
              simp only [ha] at h
              cases hq : dRun P ops E st r (listed.setIfInBounds i true) (aput sl o.dst d) with
              | none => simp [hq] at h
              | some q =>
                obtain ⟨l2, sl2, φ2⟩ := q
                simp only [hq, Option.some.injEq, Prod.mk.injEq] at h
                obtain ⟨rfl, rfl, rfl⟩ := h
                obtain ⟨h1, h2⟩ := andO_ok hφ
                exact AAny_take (ri := false) ho hf (fun e => by cases e) (.inr (.inl fun G a w hr him => ⟨awanted_sound hr hw, aop_sound ha h1 G a w hr him⟩)) (AAny_run r _ _ _ _ _ hq h2 k)
      · cases h

theorem LeL.trans {l1 l2 : List D} (h : LeL l1 l2) : ∀ {l3 : List D}, LeL l2 l3 → LeL l1 l3 := by
  induction h with
  | nil => intro l3 k; exact k
  | cons h1 _ ih =>
    intro l3 k
    cases k with
    | cons k1 k2 => exact .cons (fun G v r => k1 G v (h1 G v r)) (ih k2)
theorem AAny_weaken {E : List Nat} {st : Nat} {I : Store → Prop} {R : List D → Store → Prop} (hR : ∀ sl sl' S, LeL sl sl' → R sl' S → R sl S) : ∀ (fuel : Nat) (listed : Array Bool) (sl sl' : List D) (S : Store), LeL sl sl' → AAny P ops E st I R fuel listed sl' S → AAny P ops E st I R fuel listed sl S
  | 0, _, _, _, _, hl, h => ⟨h.1, h.2.1, hR _ _ _ hl h.2.2⟩
  | fuel + 1, listed, sl, sl', S, hl, h => by
    refine ⟨h.1, fun h0 => hR _ _ _ hl (h.2.1 h0), fun i hi => ?_⟩
    obtain ⟨o, ho, hc⟩ := h.2.2 i hi
    have hv : LeL (vis ops o sl) (vis ops o sl') := vis_mono o hl
    have put : ∀ d, LeL (aput sl o.dst d) (aput sl' o.dst d) := fun d => by
      cases o.dst with
      | none => exact hl
      | some t =>
        simp only [aput]
        clear hc h hv
        induction hl generalizing t with
        | nil => exact .nil
        | cons h1 h2 ih =>
          cases t with
          | zero => exact .cons (D.le.refl d) h2
          | succ t => exact .cons h1 (ih t)
    refine ⟨o, ho, ?_⟩
    rcases hc with ⟨h1, h2⟩ | ⟨d, h1, h2⟩ | ⟨d, h1, h2⟩ | ⟨hE, h1⟩
    · exact .inl ⟨fun G a hr => h1 G a (hv.rep hr), AAny_weaken hR fuel _ _ _ S (put _) h2⟩
    · exact .inr (.inl ⟨d, fun G a w hr him => h1 G a w (hv.rep hr) him, AAny_weaken hR fuel _ _ _ S (put _) h2⟩)
    · exact .inr (.inr (.inl ⟨d, fun G a w hs hr => h1 G a w hs (hv.rep hr), AAny_weaken hR fuel _ _ _ S (put _) h2⟩))
    · exact .inr (.inr (.inr ⟨hE, fun G a w hs hr hd => EffX.mono (fun d S' hK => AAny_weaken hR fuel _ _ _ S' (put d) hK) h1 G a w hs (hv.rep hr) hd⟩))

theorem AAny_le {E : List Nat} {st : Nat} {I : Store → Prop} {fuel : Nat} {listed : Array Bool} {sl' : List D} (hl : LeL sl sl') (h : AAny P ops E st I (RQ Q) fuel listed sl' S) : AAny P ops E st I (RQ Q) fuel listed sl S :=
  AAny_weaken (fun _ _ _ h1 ⟨sl2, h2, h3⟩ => ⟨sl2, h1.trans h2, h3⟩) _ _ _ _ _ hl h
theorem AAny_forget {E : List Nat} {st : Nat} {I : Store → Prop} {fuel : Nat} {listed : Array Bool} (m : Nat) (sl' : List D) (l' : Array Bool) (h : maskL m sl 0 = sl') (h2 : listed = l') (k : AAny P ops E st I (RQ Q) fuel l' sl' S) : AAny P ops E st I (RQ Q) fuel listed sl S :=
  AAny_le (maskL_le m sl 0) (h ▸ h2 ▸ k)
theorem AAny_to {E : List Nat} {st : Nat} {I : Store → Prop} {fuel : Nat} {listed : Array Bool} (sl' : List D) (h : sl = sl') (k : AAny P ops E st I (RQ Q) fuel listed sl' S) : AAny P ops E st I (RQ Q) fuel listed sl S := h ▸ k
theorem AAny_end {E : List Nat} {st : Nat} {I : Store → Prop} {listed : Array Bool} (hI : IOk st I listed S) (hr : Region.ready .any ops listed = []) (h : Q .normal sl S) : AAny P ops E st I (RQ Q) 0 listed sl S := ⟨hI, hr, sl, LeL.refl sl, h⟩
/-- Pure operations in a row. -/
def dStep (P : Program) (ops : Array Oper) (E : List Nat) (st : Nat) (l : List Nat) (m : Nat) (listed : Array Bool) (sl : List D) : Option (Array Bool × List D × Option Prop) :=
  match dRun P ops E st l listed sl with
  | some (l', sl', φ) => some (l', maskL m sl' 0, φ)
  | none => none
theorem AAny_seg {E : List Nat} {st : Nat} {I : Store → Prop} {f2 : Nat} {listed : Array Bool} (fuel : Nat) (l : List Nat) (m : Nat) (sl' : List D) (φ : Option Prop) (l' : Array Bool) (h : dStep P ops E st l m listed sl = some (l', sl', φ)) (hφ : CondOk φ) (hn : fuel + l.length = f2)
    (k : AAny P ops E st I (RQ Q) fuel l' sl' S) : AAny P ops E st I (RQ Q) f2 listed sl S := by
  subst hn
  unfold dStep at h
  cases hr : dRun P ops E st l listed sl with
  | none => simp [hr] at h
  | some q =>
    obtain ⟨l2, sl2, φ2⟩ := q
    simp only [hr, Option.some.injEq, Prod.mk.injEq] at h
    obtain ⟨rfl, rfl, rfl⟩ := h
    exact AAny_run _ _ _ _ _ _ hr hφ (AAny_le (maskL_le m sl2 0) k)
theorem AAny_caseS {E : List Nat} {st : Nat} {I : Store → Prop} {fuel : Nat} {listed : Array Bool} (i : Nat) (b : Bool) (hi : sl[i]? = some (.lit (.bool b))) (sl1 sl2 : List D) (e1 : sl.set i (bo true) = sl1) (e2 : sl.set i (bo false) = sl2)
    (h1 : b = true → AAny P ops E st I (RQ Q) fuel listed sl1 S) (h2 : b = false → AAny P ops E st I (RQ Q) fuel listed sl2 S) : AAny P ops E st I (RQ Q) fuel listed sl S := by
  have key : sl.set i (bo b) = sl := by
    apply List.ext_getElem?
    intro j
    by_cases e : i = j
    · subst e
      rw [hi]
      have : i < sl.length := by
        rcases Nat.lt_or_ge i sl.length with h | h
        · exact h
        · rw [List.getElem?_eq_none h] at hi; cases hi
      simp [this]
    · rw [List.getElem?_set_ne e]
  cases hb : b with
  | true => rw [hb] at key; rw [← key, e1]; exact h1 hb
  | false => rw [hb] at key; rw [← key, e2]; exact h2 hb

/-- One that reads what can change. -/
theorem AAny_load {E : List Nat} {st : Nat} {I : Store → Prop} {fuel : Nat} {listed : Array Bool} {i : Nat} {o : Oper} {t k T off : Nat} {x : Operand} {cs : List D} (d : D) (ho : ops[i]? = some o) (hf : freeD ops E st true listed i = true) (hw : awanted ops (vis ops o sl) o = some true) (hop : o.op = .load t x)
    (hx : aval (vis ops o sl) x = .ob k off) (hk : S.ob k = some (.cells T cs)) (hd : LoadD P cs off t d) (h : AAny P ops E st I (RQ Q) fuel (listed.setIfInBounds i true) (aput sl o.dst d) S) : AAny P ops E st I (RQ Q) (fuel + 1) listed sl S := by
  refine AAny_take (ri := false) ho hf (fun e => by cases e) (.inr (.inr (.inl ⟨rfl, fun G a w hs hr => ⟨awanted_sound hr hw, ?_⟩⟩))) h
  have ha := aval_rep hr x
  rw [hx] at ha
  obtain ⟨v, h1, h2⟩ := loadAt_ob (P := P) hs hk ha hd
  exact ⟨v, by simp only [execOp, hop]; exact wrap_v h1, h2⟩

def stOk (ops : Array Oper) (listed : Array Bool) (st i : Nat) : Bool :=
  !listed.getD st false && match ops[st]? with
    | some o => o.after.any fun e => Region.binds .any e && e.on == i
    | none => true
theorem stOk_spec {listed : Array Bool} {st i : Nat} (h : stOk ops listed st i = true) : listed.getD st false = false ∧ ∀ o, ops[st]? = some o → ∃ e ∈ o.after, Region.binds .any e = true ∧ e.on = i := by
  simp only [stOk, Bool.and_eq_true, Bool.not_eq_true'] at h
  refine ⟨h.1, fun o ho => ?_⟩
  have h2 := h.2
  rw [ho] at h2
  rw [Array.any_eq_true'] at h2
  obtain ⟨e, he, hb⟩ := h2
  simp only [Bool.and_eq_true, beq_iff_eq] at hb
  exact ⟨e, he, hb.1, hb.2⟩
/-- One that reads what can change, though others may act, where they leave it. -/
theorem AAny_loadI {E : List Nat} {st : Nat} {I : Store → Prop} {fuel : Nat} {listed : Array Bool} {i : Nat} {o : Oper} {t k T off : Nat} {x : Operand} {cs : List D} (d : D) (ho : ops[i]? = some o) (hf : freeD ops E st false listed i = true) (hw : awanted ops (vis ops o sl) o = some true) (hop : o.op = .load t x)
    (hx : aval (vis ops o sl) x = .ob k off) (hk : ∀ S, I S → S.ob k = some (.cells T cs)) (hst : stOk ops listed st i = true) (hd : LoadD P cs off t d) (h : AAny P ops E st I (RQ Q) fuel (listed.setIfInBounds i true) (aput sl o.dst d) S) : AAny P ops E st I (RQ Q) (fuel + 1) listed sl S := by
  refine AAny_take (rd := false) (ri := true) ho hf (fun _ => stOk_spec hst) (.inr (.inr (.inr ⟨rfl, fun S' hI G a w hs hr => ⟨awanted_sound hr hw, ?_⟩⟩))) h
  have ha := aval_rep hr x
  rw [hx] at ha
  obtain ⟨v, h1, h2⟩ := loadAt_ob (P := P) hs (hk S' hI) ha hd
  exact ⟨v, by simp only [execOp, hop]; exact wrap_v h1, h2⟩

theorem wp_form {o : Oper} {a : Act} {Q' : Exit → List D → Store → Prop} (hd : a.defers = []) (h : o.wp P a w (fun a' w' => liftQ G Q' .normal a' w') (liftQ G Q')) :
    o.wp P a w (fun a' w' => (∃ u, a' = a.put o.dst u) ∧ liftQ G Q' .normal a' w') (fun _ _ _ => False) := by
  unfold Oper.wp Oper.upon at *
  split at h
  · exact ⟨⟨_, rfl⟩, h⟩
  · exact ⟨⟨_, rfl⟩, h⟩
  · simp only [liftQ, put_defers] at h
    obtain ⟨_, _, _, _, _, _, h, _⟩ := h
    cases h
  · exact h.mono fun e w' x => by
      cases e with
      | returned v => exact ⟨⟨_, rfl⟩, x⟩
      | panicked c => exact x
      | outgrown => obtain ⟨a, w, y⟩ := x; exact ⟨a, w, y⟩
  · exact h.mono fun v w' x => ⟨⟨_, rfl⟩, x⟩
  · exact h
  · exact h.elim
theorem vis_length (o : Oper) (sl : List D) : (vis ops o sl).length = sl.length := by
  have : ∀ (L : List Nat) (l : List D) (i : Nat), (mkD L l i).length = l.length := by
    intro L l
    induction l with
    | nil => intro i; rfl
    | cons d r ih => intro i; simp [mkD, ih]
  exact this _ sl 0
/-- One that acts, and nothing else can come. -/
def AEff (P : Program) (ops : Array Oper) (E : List Nat) (st : Nat) (I : Store → Prop) (Q : Exit → List D → Store → Prop) (fuel : Nat) (listed : Array Bool) (sl : List D) (S : Store) (i : Nat) : Prop :=
  ∃ o, ops[i]? = some o ∧ E.contains i = true ∧ awanted ops (vis ops o sl) o = some true ∧
    AOps P ops (fun e ml' S' => e = .normal ∧ ∃ d, ml' = aput (vis ops o sl) o.dst d ∧ AAny P ops E st I (RQ Q) fuel (listed.setIfInBounds i true) (aput sl o.dst d) S') [i] (vis ops o sl) S
theorem aeff {E : List Nat} {st : Nat} {I : Store → Prop} {fuel : Nat} {listed : Array Bool} {i : Nat} {o : Oper} (ho : ops[i]? = some o) (hE : E.contains i = true) (hw : awanted ops (vis ops o sl) o = some true)
    (h : AOps P ops (fun e ml' S' => e = .normal ∧ ∃ d, ml' = aput (vis ops o sl) o.dst d ∧ AAny P ops E st I (RQ Q) fuel (listed.setIfInBounds i true) (aput sl o.dst d) S') [i] (vis ops o sl) S) : AEff P ops E st I Q fuel listed sl S i := ⟨o, ho, hE, hw, h⟩
theorem alts_nil {E : List Nat} {st : Nat} {I : Store → Prop} {fuel : Nat} {listed : Array Bool} : ∀ j ∈ ([] : List Nat), AEff P ops E st I Q fuel listed sl S j := fun _ h => by cases h
theorem alts_cons {E : List Nat} {st : Nat} {I : Store → Prop} {fuel : Nat} {listed : Array Bool} {i : Nat} {l : List Nat} (h : AEff P ops E st I Q fuel listed sl S i) (k : ∀ j ∈ l, AEff P ops E st I Q fuel listed sl S j) : ∀ j ∈ i :: l, AEff P ops E st I Q fuel listed sl S j := fun j hj => by
  rcases List.mem_cons.1 hj with rfl | hj
  · exact h
  · exact k j hj
/-- Some that act, whichever comes first. -/
theorem AAny_alts {E : List Nat} {st : Nat} {I : Store → Prop} {fuel : Nat} {listed : Array Bool} (l : List Nat) (hI : IOk st I listed S) (hr : Region.ready .any ops listed = l) (hl : l.isEmpty = false) (h : ∀ i ∈ l, AEff P ops E st I Q fuel listed sl S i) : AAny P ops E st I (RQ Q) (fuel + 1) listed sl S := by
  subst hr
  refine ⟨hI, fun h0 => (by rw [h0] at hl; cases hl), fun j hj => ?_⟩
  obtain ⟨o, ho, hE, hw, h⟩ := h j hj
  refine ⟨o, ho, .inr (.inr (.inr ⟨by simpa using hE, fun G a w hs hrr hd => ⟨awanted_sound hrr hw, ?_⟩⟩))⟩
  have h1 := h G w a hs hrr hd
  simp only [wpOps, ho, awanted_sound hrr hw, if_true] at h1
  have h2 := h1.resolve_right (fun ⟨_, a, w, x⟩ => x)
  refine upon_false ?_ (wp_form hd h2)
  rintro a' w' ⟨⟨u, rfl⟩, G', ml', S', he, hs', hr', _, _, d, rfl, hK⟩
  have hl := hr'.length
  cases hdst : o.dst with
  | none =>
    rw [hdst] at hK
    exact ⟨u, .any, S', G', rfl, he, hs', by simp only [Rep], hK⟩
  | some t =>
    rw [hdst] at hK hr'
    rcases Nat.lt_or_ge t sl.length with hlt | hge
    · refine ⟨u, d, S', G', rfl, he, hs', ?_, hK⟩
      have hml : t < (vis ops o sl).length := by rw [vis_length]; exact hlt
      obtain ⟨v, g1, g2⟩ := hr'.get t d (by simp [aput, hml])
      have hat : t < a.tmps.size := by
        have h7 := hrr.length
        rw [vis_length, Array.length_toList] at h7
        rw [h7]
        exact hlt
      simp only [Act.put, Array.getElem?_toList] at g1
      rw [Array.getElem?_setIfInBounds_self_of_lt hat] at g1
      cases g1
      exact g2
    · refine ⟨u, .any, S', G', rfl, he, hs', by simp only [Rep], ?_⟩
      have e : ∀ x, aput sl (some t) x = sl := fun x => List.set_eq_of_length_le hge
      show AAny P ops E st I (RQ Q) fuel (listed.setIfInBounds j true) (aput sl (some t) .any) S'
      rw [e] at hK ⊢
      exact hK
theorem AAny_eff {E : List Nat} {st : Nat} {I : Store → Prop} {fuel : Nat} {listed : Array Bool} (i : Nat) {o : Oper} (hI : IOk st I listed S) (ho : ops[i]? = some o) (hr : Region.ready .any ops listed = [i]) (hE : E.contains i = true) (hw : awanted ops (vis ops o sl) o = some true)
    (h : AOps P ops (fun e ml' S' => e = .normal ∧ ∃ d, ml' = aput (vis ops o sl) o.dst d ∧ AAny P ops E st I (RQ Q) fuel (listed.setIfInBounds i true) (aput sl o.dst d) S') [i] (vis ops o sl) S) : AAny P ops E st I (RQ Q) (fuel + 1) listed sl S :=
  AAny_alts [i] hI hr rfl (alts_cons (aeff ho hE hw h) alts_nil)
end Go.Proofs.Ytfaojkajlpojlaa.Abs
