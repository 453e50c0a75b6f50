/- Runs of operations; calls. -/
import Derived.Test.YtfaojkajlpojlaaAbsE
namespace Go.Proofs.Ytfaojkajlpojlaa.Abs
open Go Go.RowKit

variable {P : Program} {Q : Exit → List D → Store → Prop} {sl : List D} {S : Store}

def andO : Option Prop → Option Prop → Option Prop
  | none, x => x
  | x, none => x
  | some p, some q => some (p ∧ q)
theorem andO_ok {p q : Option Prop} (h : CondOk (andO p q)) : CondOk p ∧ CondOk q := by
  cases p <;> cases q <;> first | exact ⟨trivial, trivial⟩ | exact ⟨trivial, h⟩ | exact ⟨h, trivial⟩ | exact h

/-- Is the operation carried out? -/
def awanted (ops : Array Oper) (sl : List D) (o : Oper) : Option Bool :=
  match o.guard with
  | none => some true
  | some (j, want) =>
    match (ops[j]?).bind (·.dst) with
    | some t =>
      match sl[t]? with
      | some (.lit (.bool b)) => some (b == want)
      | some (.lit (.tuple _)) => some false
      | _ => none
    | none => none

theorem awanted_sound {ops : Array Oper} {o : Oper} {b : Bool} {G : Gh} {a : Act} (hr : RepL G sl a.tmps.toList) (h : awanted ops sl o = some b) :
    Region.wanted o (yielded ops a.tmps) = b := by
  unfold awanted at h
  unfold Region.wanted
  cases hg : o.guard with
  | none => simp only [hg, Option.some.injEq] at h; subst h; rfl
  | some p =>
    obtain ⟨j, want⟩ := p
    simp only [hg] at h
    cases ht : (ops[j]?).bind (·.dst) with
    | none => simp [ht] at h
    | some t =>
      simp only [ht] at h
      split at h
      · rename_i c hc
        simp only [Option.some.injEq] at h
        obtain ⟨v, h1, h2⟩ := hr.get _ _ hc
        simp only [Rep] at h2
        subst h2
        have h3 : a.tmps[t]? = some (.bool c) := by simpa using h1
        simp only [yielded, ht, Option.bind_some, h3]
        rw [← h]
        cases c <;> cases want <;> rfl
      · rename_i vs hc
        simp only [Option.some.injEq] at h
        obtain ⟨v, h1, h2⟩ := hr.get _ _ hc
        simp only [Rep] at h2
        subst h2
        have h3 : a.tmps[t]? = some (.tuple vs) := by simpa using h1
        simp only [yielded, ht, Option.bind_some, h3]
        rw [← h]
        cases want <;> rfl
      · cases h

/-- As far as it goes by sight: slots, what is asked, what is left. -/
def aRun (P : Program) (ops : Array Oper) : List Nat → List D → List D × Option Prop × List Nat
  | [], sl => (sl, none, [])
  | i :: r, sl =>
    match ops[i]? with
    | none => (sl, none, i :: r)
    | some o =>
      match awanted ops sl o with
      | none => (sl, none, i :: r)
      | some false => aRun P ops r (aput sl o.dst (.lit (.tuple #[])))
      | some true =>
        match aop P sl o.op with
        | none => (sl, none, i :: r)
        | some (d, φ) =>
          match aRun P ops r (aput sl o.dst d) with
          | (sl', ψ, r') => (sl', andO φ ψ, r')

theorem Oper.upon_mono2 {o : Oper} {a : Act} {K K' : Act → World → Prop} {Q Q' : Exit → Act → World → Prop} (hk : ∀ a w, K a w → K' a w) (hq : ∀ e a w, Q e a w → Q' e a w) (r : Result Next)
    (h : o.upon P a K Q r) : o.upon P a K' Q' r := by
  unfold Oper.upon at *
  split at h
  · exact hk _ _ h
  · exact hk _ _ h
  · exact hk _ _ h
  · exact h.mono fun e w' x => by
      cases e with
      | returned v => exact hk _ _ x
      | panicked c => exact hq _ _ _ x
      | outgrown => obtain ⟨a, w, y⟩ := x; exact ⟨a, w, hq _ _ _ y⟩
  · exact h.mono fun v w' x => hk _ _ x
  · exact hq _ _ _ h
  · exact h.elim
theorem wpOps_mono {ops : Array Oper} {Q Q' : Exit → Act → World → Prop} (hq : ∀ e a w, Q e a w → Q' e a w) : ∀ (l : List Nat) (a : Act) (w : World), wpOps P ops Q l a w → wpOps P ops Q' l a w
  | [], a, w, h => hq _ _ _ h
  | i :: l, a, w, h => by
    simp only [wpOps] at *
    cases ho : ops[i]? with
    | none => simp only [ho] at *; exact wpOps_mono hq l _ _ h
    | some o =>
      simp only [ho] at *
      split
      · rename_i hw
        simp only [hw, if_true] at h
        rcases h with h | ⟨h1, b, v, h2⟩
        · exact .inl (Oper.upon_mono2 (fun a w x => wpOps_mono hq l a w x) hq _ h)
        · exact .inr ⟨h1, b, v, hq _ _ _ h2⟩
      · rename_i hw
        simp only [hw] at h
        exact wpOps_mono hq l _ _ (by simpa using h)

theorem wpOps_some {ops : Array Oper} {i : Nat} {r : List Nat} {o : Oper} (ho : ops[i]? = some o) {Q' : Exit → Act → World → Prop} {a : Act} {w : World} (hw : Region.wanted o (yielded ops a.tmps) = true)
    (h : o.wp P a w (wpOps P ops Q' r) Q') : wpOps P ops Q' (i :: r) a w := by
  simp only [wpOps, ho, hw, if_true]
  exact .inl h
theorem wpOps_off {ops : Array Oper} {i : Nat} {r : List Nat} {o : Oper} (ho : ops[i]? = some o) {Q' : Exit → Act → World → Prop} {a : Act} {w : World} (hw : Region.wanted o (yielded ops a.tmps) = false)
    (h : wpOps P ops Q' r (a.put o.dst undef) w) : wpOps P ops Q' (i :: r) a w := by
  simp only [wpOps, ho, hw, Bool.false_eq_true, if_false]
  exact h

theorem AOps_run {ops : Array Oper} : ∀ (l : List Nat) (sl sl' : List D) (φ : Option Prop) (r : List Nat), aRun P ops l sl = (sl', φ, r) → CondOk φ → AOps P ops Q r sl' S → AOps P ops Q l sl S
  | [], sl, sl', φ, r, h, hφ, k => by simp only [aRun, Prod.mk.injEq] at h; obtain ⟨rfl, rfl, rfl⟩ := h; exact k
  | i :: l, sl, sl', φ, r, h, hφ, k => by
    simp only [aRun] at h
    cases ho : ops[i]? with
    | none => simp only [ho, Prod.mk.injEq] at h; obtain ⟨rfl, rfl, rfl⟩ := h; exact k
    | some o =>
      simp only [ho] at h
      cases hw : awanted ops sl o with
      | none => simp only [hw, Prod.mk.injEq] at h; obtain ⟨rfl, rfl, rfl⟩ := h; exact k
      | some b =>
        cases b with
        | false =>
          simp only [hw] at h
          have ih := AOps_run l _ _ _ _ h hφ k
          intro G w a hs hr hd
          refine wpOps_off ho (awanted_sound hr hw) (ih G w _ hs (aput_rep hr _ (by simp [Rep, undef])) ?_)
          rw [put_defers]; exact hd
        | true =>
          simp only [hw] at h
          cases ha : aop P sl o.op with
          | none => simp only [ha, Prod.mk.injEq] at h; obtain ⟨rfl, rfl, rfl⟩ := h; exact k
          | some p =>
            obtain ⟨d, ψ⟩ := p
            simp only [ha] at h
            cases hq : aRun P ops l (aput sl o.dst d) with
            | mk sl2 q =>
              obtain ⟨φ2, r2⟩ := q
              simp only [hq, Prod.mk.injEq] at h
              obtain ⟨rfl, rfl, rfl⟩ := h
              obtain ⟨h1, h2⟩ := andO_ok hφ
              have ih := AOps_run l _ _ _ _ hq h2 k
              intro G w a hs hr hd
              obtain ⟨v, h3, h4⟩ := aop_sound ha h1 G a w hr hs.im
              refine wpOps_some ho (awanted_sound hr hw) ?_
              simp only [Oper.wp, h3, Oper.upon_value]
              exact ih G w _ hs (aput_rep hr _ h4) (by rw [put_defers]; exact hd)

/-- A test that isn't known yet. -/
theorem AOps_case {ops : Array Oper} {l : List Nat} (i : Nat) (b : Bool) (hi : sl[i]? = some (.lit (.bool b)))
    (h1 : b = true → AOps P ops Q l (sl.set i (.lit (.bool true))) S) (h2 : b = false → AOps P ops Q l (sl.set i (.lit (.bool false))) S) : AOps P ops Q l sl S := by
  have hlt : i < sl.length := by
    rcases Nat.lt_or_ge i sl.length with h | h
    · exact h
    · simp [List.getElem?_eq_none h] at hi
  have hs : sl.set i (.lit (.bool b)) = sl := by
    apply List.ext_getElem?
    intro j
    rw [List.getElem?_set]
    split
    · rename_i h; subst h; simp [hi]
    · rfl
  cases b
  · have := h2 rfl; rwa [hs] at this
  · have := h1 rfl; rwa [hs] at this

/-- One operation, by a law of the machine's. -/
theorem AOps_one {ops : Array Oper} {i : Nat} {l : List Nat} {o : Oper} (ho : ops[i]? = some o) (hw : awanted ops sl o = some true)
    (h : ∀ (G : Gh) (w : World) (a : Act), Sim S G w → RepL G sl a.tmps.toList → a.defers = [] → ∃ nx w' G' d S', (execOp a.eval o).run P w = .ok nx w' ∧ Ext G G' ∧ Sim S' G' w' ∧
      (nx = .skip ∧ d = .any ∨ ∃ v, nx = .value v ∧ Rep G' d v) ∧ AOps P ops Q l (aput sl o.dst d) S') : AOps P ops Q (i :: l) sl S := by
  intro G w a hs hr hd
  obtain ⟨nx, w', G', d, S', h1, h2, h3, h4, h5⟩ := h G w a hs hr hd
  refine wpOps_some ho (awanted_sound hr hw) ?_
  simp only [Oper.wp, h1]
  have key : ∀ v, Rep G' d v → wpOps P ops (liftQ G Q) l (a.put o.dst v) w' := fun v hv => by
    have := h5 G' w' (a.put o.dst v) h3 (aput_rep (hr.ext h2) _ hv) (by rw [put_defers]; exact hd)
    exact wpOps_mono (fun e a w x => liftQ_ext h2 x) _ _ _ this
  rcases h4 with ⟨rfl, rfl⟩ | ⟨v, rfl, hv⟩
  · exact key undef (by simp [Rep])
  · exact key v hv

/-- A call of a function. -/
def calleeD (sl : List D) : Callee → Option (FuncId × List D)
  | .value f =>
    match aval sl f with
    | .fn (.func g) first captured => some (g, first ++ [] ++ captured)
    | _ => none
  | _ => none

theorem AOps_call {ops : Array Oper} {i : Nat} {l : List Nat} {o : Oper} {c : Call} {f : FuncId} {first captured : List D} {fo : Operand} (ho : ops[i]? = some o) (hop : o.op = .call c) (hcal : c.callee = .value fo)
    (hf : aval sl fo = .fn (.func f) first captured) (hw : awanted ops sl o = some true) {fn : Func} (hfn : P.funcs[f]? = some fn) (hname : fn.name ≠ "runtime.NumGoroutine") (hbody : fn.body.isSome = true)
    (h : ACalls P f (first ++ c.args.toList.map (aval sl) ++ captured) S fun r S' => AOps P ops Q l (aput sl o.dst r) S') : AOps P ops Q (i :: l) sl S := by
  intro G w a hs hr hd
  refine wpOps_some ho (awanted_sound hr hw) ?_
  have h1 := aval_rep hr fo
  rw [hf] at h1
  simp only [Rep] at h1
  obtain ⟨vs, ws, h2, h3, h4⟩ := h1
  have hrun : (execOp a.eval o).run P w = .ok (.enter f (vs.toArray ++ c.args.map a.eval ++ ws.toArray)) w := by
    simp only [execOp, hop, resolve, hcal, h2, Deferred.ofValue, Sem.run_bind, Sem.run_pure, Result.andThen_ok, invoke, callFunc, run_program, hfn]
    have hn : (fn.name == "runtime.NumGoroutine") = false := by simpa using hname
    have hb : fn.body.isNone = false := by cases hb : fn.body <;> simp [hb] at hbody ⊢
    simp [hn, hb]
  simp only [Oper.wp, hrun, Oper.upon_enter]
  refine (h G w _ hs ?_).mono ?_
  · simp only [Array.toList_append, Array.toList_map]
    exact (h3.append (avals_rep hr _)).append h4
  · rintro e w' ⟨v, r, S', G', rfl, h5, h6, h7, h8⟩
    have := h8 G' w' (a.put o.dst v) h6 (aput_rep (hr.ext h5) _ h7) (by rw [put_defers]; exact hd)
    exact wpOps_mono (fun e a w x => liftQ_ext h5 x) _ _ _ this
end Go.Proofs.Ytfaojkajlpojlaa.Abs
