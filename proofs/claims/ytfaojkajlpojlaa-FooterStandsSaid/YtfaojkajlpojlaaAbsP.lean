/- More words of the printed walks: slots that say less, objects, rows in memory, maps as lists. -/
import Derived.Test.YtfaojkajlpojlaaAbsO
import Derived.Scope
namespace Go.Proofs.Ytfaojkajlpojlaa.Abs
open Go Go.RowKit

variable {P : Program} {S : Store} {G : Gh} {w : World} {Q : Exit → List D → Store → Prop} {sl : List D}

inductive LeP : List (Nat × D) → List (Nat × D) → Prop
  | nil : LeP [] []
  | cons {i : Nat} {d d' : D} {r r' : List (Nat × D)} : d.le d' → LeP r r' → LeP ((i, d) :: r) ((i, d') :: r')
theorem look_le {l l' : List (Nat × D)} (h : LeP l l') : ∀ i, (look l i).le (look l' i) := by
  induction h with
  | nil => intro i; exact D.le.refl _
  | cons h1 _ ih =>
    intro i
    simp only [look]
    split
    · exact h1
    · exact ih i
theorem map_le {f g : Nat → D} (h : ∀ i, (f i).le (g i)) : ∀ l : List Nat, LeL (l.map f) (l.map g)
  | [] => .nil
  | i :: l => .cons (h i) (map_le h l)
theorem mkS_le {n : Nat} {l l' : List (Nat × D)} (h : LeP l l') : LeL (mkS n l) (mkS n l') := map_le (look_le h) _
theorem le_eq {a b c : List D} (h : a = b) (k : LeL b c) : LeL a c := h ▸ k
theorem le_rf {a b : List D} (h : a = b) : LeL a b := h ▸ LeL.refl a

/-- An object that says less. -/
theorem Sim.obLe (h : Sim S G w) {k T : Nat} {cs cs' : List D} (hk : S.ob k = some (.cells T cs)) (hl : LeL cs cs') : Sim (S.setOb k (some (.cells T cs'))) G w where
  below := h.below
  im := h.im
  obj := fun j o x => by
    simp only [Store.ob_setOb] at x
    split at x
    · rename_i e
      subst e
      cases x
      obtain ⟨b, g1, g2, g3, g4, us, g5, g6, g7⟩ := h.obj j _ hk
      exact ⟨b, g1, g2, g3, g4, us, g5, hl.rep g6, g7⟩
    · exact h.obj j o x
  tok := fun t n sz x => h.tok t n sz x
  fresh := fun j hj => by
    obtain ⟨f1, f2, f3, f4⟩ := h.fresh j hj
    have hne : j ≠ k := fun e => by subst e; rw [f2] at hk; cases hk
    exact ⟨f1, by simp [hne, f2], f3, f4⟩
  owned := h.owned
theorem AOps_obLe {ops : Array Oper} {l : List Nat} {k T : Nat} {cs cs' : List D} (hk : S.ob k = some (.cells T cs)) (hl : LeL cs cs') (h : AOps P ops Q l sl (S.setOb k (some (.cells T cs')))) : AOps P ops Q l sl S :=
  fun G w a hs hr hd => h G w a (hs.obLe hk hl) hr hd
theorem setOb_two (S : Store) (k : Nat) (a b : Option Ob) : (S.setOb k a).setOb k b = S.setOb k b := by
  have : (fun j => if j = k then b else if j = k then a else S.ob j) = fun j => if j = k then b else S.ob j := by
    funext j
    by_cases e : j = k <;> simp [e]
  simp only [Store.setOb]
  congr
theorem AOps_allocV {ops : Array Oper} {i : Nat} {l : List Nat} {o : Oper} {t : Nat} {ds cs' : List D} (ho : ops[i]? = some o) (hw : awanted ops sl o = some true) (hop : o.op = .alloc t)
    (hz : zeroD P t = some ds) (hl : LeL ds cs') (h : ∀ S' k, S.ob k = none → UpdO S S' k (.cells t cs') → AOps P ops Q l (aput sl o.dst (.ob k 0)) S') : AOps P ops Q (i :: l) sl S :=
  AOps_alloc ho hw hop hz fun k hk => AOps_obLe (k := k) (T := t) (cs := ds) (by simp) hl (by rw [setOb_two]; exact h _ k hk (UpdO.mk' S k _))
theorem AOps_boxV {ops : Array Oper} {i : Nat} {l : List Nat} {o : Oper} {t : Nat} {x : Operand} {ds cs' : List D} (ho : ops[i]? = some o) (hw : awanted ops sl o = some true) (hop : o.op = .box t x)
    (hx : cellsD (aval sl x) = some ds) (hl : LeL ds cs') (h : ∀ S' k, S.ob k = none → UpdO S S' k (.cells t cs') → AOps P ops Q l (aput sl o.dst (.ob k 0)) S') : AOps P ops Q (i :: l) sl S :=
  AOps_box_ob ho hw hop hx fun k hk => AOps_obLe (k := k) (T := t) (cs := ds) (by simp) hl (by rw [setOb_two]; exact h _ k hk (UpdO.mk' S k _))
theorem AOps_putV {ops : Array Oper} {i : Nat} {l : List Nat} {o : Oper} {t k T off : Nat} {x y : Operand} {cs ds cs' : List D} (ho : ops[i]? = some o) (hw : awanted ops sl o = some true) (hop : o.op = .store t x y)
    (hx : aval sl x = .ob k off) (hk : S.ob k = some (.cells T cs)) (hy : cellsD (aval sl y) = some ds) (hn : cellsN P t = some ds.length) (hle : off + ds.length ≤ cs.length) (hc : LeL (cs.take off ++ ds ++ cs.drop (off + ds.length)) cs')
    (h : ∀ S', UpdO S S' k (.cells T cs') → AOps P ops Q l (aput sl o.dst .any) S') : AOps P ops Q (i :: l) sl S :=
  AOps_put ho hw hop hx hk hy hn hle (AOps_obLe (k := k) (T := T) (cs := cs.take off ++ ds ++ cs.drop (off + ds.length)) (by simp) hc (by rw [setOb_two]; exact h _ (UpdO.mk' S k _)))

/-! ### A caller's object -/
theorem le_self {b : Nat} {o : Ob} (h : S.ob b = some o) : S.le (S.setOb b (some o)) where
  ob := fun k x y => by
    simp only [Store.ob_setOb] at y
    split at y
    · rename_i e; subst e; cases y; exact h
    · exact y
  tk := fun k x y => y
theorem fresh_leB {S0 : Store} {b k : Nat} {x : Ob} (h : S.le (S0.setOb b (some x))) (ht : S.ob k = none) : S0.ob k = none ∧ k ≠ b := by
  have hne : k ≠ b := fun e => by
    subst e
    have := h.ob k x (by simp)
    rw [ht] at this
    cases this
  refine ⟨?_, hne⟩
  cases hx : S0.ob k with
  | none => rfl
  | some y =>
    have := h.ob k y (by simp [hne, hx])
    rw [ht] at this
    cases this
theorem UpdO.leN {S0 S S' : Store} {b k : Nat} {o x : Ob} (u : UpdO S S' k o) (h : S.le (S0.setOb b (some x))) (hf : S0.ob k = none ∧ k ≠ b) : S'.le (S0.setOb b (some x)) :=
  u.le h (by simp [hf.1, hf.2])
theorem UpdO.leB {S0 S S' : Store} {b : Nat} {o x : Ob} (u : UpdO S S' b o) (h : S.le (S0.setOb b (some x))) : S'.le (S0.setOb b (some o)) where
  ob := fun j y z => by
    simp only [Store.ob_setOb] at z
    split at z
    · rename_i e; subst e; cases z; exact u.at_
    · rename_i e
      rw [u.ne j e]
      exact h.ob j y (by simp [e, z])
  tk := fun j y z => by rw [u.tk]; exact h.tk j y z

/-! ### A scope in which the run jumps -/
def jumpM (J : Nat → Act → World → Prop) (Q : Exit → Act → World → Prop) : Exit → Act → World → Prop
  | .goto l, a, w => J l a w
  | e, a, w => Q e a w
theorem wp_scope_many {c : Code} {a : Act} {w : World} {Q : Exit → Act → World → Prop} (J : Nat → Nat → Act → World → Prop) (first : c.wp P (jumpM (fun l a w => ∃ n, J l n a w) Q) a w)
    (pass : ∀ l n a w, J l n a w → ∃ rest, findLabel c l = some rest ∧ rest.wp P (jumpM (fun l a w => ∃ m, m < n ∧ J l m a w) Q) a w) : (Code.scope c).wp P Q a w := by
  intro b k cs
  have hg : ∀ l rest, findLabel c l = some rest → gotoIn l (.inScope c :: k) = some (.code rest :: .inScope c :: k) := fun l rest hf => by simp [gotoIn, hf]
  have key : ∀ n l a w, J l n a w → ∃ rest, findLabel c l = some rest ∧ ∃ e a' w', Q e a' w' ∧ Arrives P (lone (b.at a (.code rest :: .inScope c :: k)) cs w) b k cs e a' w' := by
    intro n
    induction n using Nat.strongRecOn with
    | _ n ih =>
      intro l a w hJ
      obtain ⟨rest, hf, hp⟩ := pass l n a w hJ
      refine ⟨rest, hf, ?_⟩
      obtain ⟨e, a₁, w₁, hq, harr⟩ := hp b (.inScope c :: k) cs
      cases e with
      | normal => exact ⟨.normal, a₁, w₁, hq, Steps.trans harr (.one step_inScope)⟩
      | exit id => exact ⟨.exit id, a₁, w₁, hq, fun k' hk => harr k' (by simp [exitTo, hk])⟩
      | goto l' =>
        obtain ⟨m, hm, hJ'⟩ := hq
        obtain ⟨rest', hf', e₂, a₂, w₂, hq₂, harr₂⟩ := ih m hm l' a₁ w₁ hJ'
        exact ⟨e₂, a₂, w₂, hq₂, .of_steps (harr _ (hg l' rest' hf')) harr₂⟩
      | ret => exact ⟨_, a₁, w₁, hq, harr⟩
      | panic ch => exact ⟨_, a₁, w₁, hq, harr⟩
      | outgrown => exact ⟨_, a₁, w₁, hq, harr⟩
  obtain ⟨e, a₁, w₁, hq, harr⟩ := first b (.inScope c :: k) cs
  cases e with
  | normal => exact ⟨.normal, a₁, w₁, hq, .head step_scope (Steps.trans harr (.one step_inScope))⟩
  | exit id => exact ⟨.exit id, a₁, w₁, hq, fun k' hk => .head step_scope (harr k' (by simp [exitTo, hk]))⟩
  | goto l' =>
    obtain ⟨n, hJ'⟩ := hq
    obtain ⟨rest, hf, e₂, a₂, w₂, hq₂, harr₂⟩ := key n l' a₁ w₁ hJ'
    exact ⟨e₂, a₂, w₂, hq₂, .of_steps (.head step_scope (harr _ (hg l' rest hf))) harr₂⟩
  | ret => exact ⟨_, a₁, w₁, hq, .of_steps (.one step_scope) harr⟩
  | panic ch => exact ⟨_, a₁, w₁, hq, .of_steps (.one step_scope) harr⟩
  | outgrown => exact ⟨_, a₁, w₁, hq, .of_steps (.one step_scope) harr⟩
def scopeQ (J : Nat → List D → Store → Prop) (Q : Exit → List D → Store → Prop) (e : Exit) (sl : List D) (S : Store) : Prop :=
  match e with
  | .goto l => J l sl S
  | e => Q e sl S
theorem AT_scope {c : Code} (I : Nat → Nat → List D → Store → Prop) (first : AT P c (scopeQ (fun l sl S => ∃ n, I l n sl S) Q) sl S)
    (step : ∀ l n sl S, I l n sl S → ∃ rest, findLabel c l = some rest ∧ AT P rest (scopeQ (fun l sl S => ∃ m, m < n ∧ I l m sl S) Q) sl S) : AT P (.scope c) Q sl S := by
  intro G w a hs hr hd
  refine wp_scope_many (fun l n a w => ∃ G' sl S, Ext G G' ∧ Sim S G' w ∧ RepL G' sl a.tmps.toList ∧ a.defers = [] ∧ I l n sl S) ?_ ?_
  · refine wp_mono (first G w a hs hr hd) fun e a w x => ?_
    cases e with
    | goto l =>
      obtain ⟨G', sl', S', h1, h2, h3, h4, n, h5⟩ := x
      exact ⟨n, G', sl', S', h1, h2, h3, h4, h5⟩
    | normal => exact x
    | exit id => exact x
    | ret => exact x
    | panic ch => exact x
    | outgrown => exact x
  · rintro l n a w ⟨G', sl', S', h1, h2, h3, h4, h5⟩
    obtain ⟨rest, hf, hp⟩ := step l n sl' S' h5
    refine ⟨rest, hf, wp_mono (hp G' w a h2 h3 h4) fun e a w x => ?_⟩
    cases e with
    | goto l =>
      obtain ⟨G2, sl2, S2, g1, g2, g3, g4, m, g5, g6⟩ := x
      exact ⟨m, g5, G2, sl2, S2, h1.trans g1, g2, g3, g4, g6⟩
    | normal => exact liftQ_ext h1 x
    | exit id => exact liftQ_ext h1 x
    | ret => exact liftQ_ext h1 x
    | panic ch => exact x
    | outgrown => exact x
theorem AT_goto {l : Nat} (h : Q (.goto l) sl S) : AT P (.goto l) Q sl S := fun _ _ _ hs hr hd => wp_goto (liftQ_mk hs hr hd trivial h)
theorem athen_g {next : List D → Store → Prop} {l : Nat} (h : Q (.goto l) sl S) : athen next Q (.goto l) sl S := h
theorem ablock_g {id l : Nat} (h : Q (.goto l) sl S) : ablock id Q (.goto l) sl S := h
theorem scope_n {J : Nat → List D → Store → Prop} (h : Q .normal sl S) : scopeQ J Q .normal sl S := h
theorem scope_e {J : Nat → List D → Store → Prop} {id : Nat} (h : Q (.exit id) sl S) : scopeQ J Q (.exit id) sl S := h
theorem scope_r {J : Nat → List D → Store → Prop} (h : Q .ret sl S) : scopeQ J Q .ret sl S := h
theorem scope_g {J : Nat → List D → Store → Prop} {l : Nat} (h : J l sl S) : scopeQ J Q (.goto l) sl S := h
end Go.Proofs.Ytfaojkajlpojlaa.Abs
