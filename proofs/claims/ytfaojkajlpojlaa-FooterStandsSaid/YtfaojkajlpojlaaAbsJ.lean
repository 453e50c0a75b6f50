/- The words of the printed walks. -/
import Derived.Test.YtfaojkajlpojlaaAbsI
namespace Go.Proofs.Ytfaojkajlpojlaa.Abs
open Go Go.RowKit

variable {P : Program} {Q : Exit → List D → Store → Prop} {sl : List D} {S : Store}

abbrev i64 (n : Int) : D := .lit (.int .i64 n)
abbrev u64 (n : Int) : D := .lit (.int .u64 n)
abbrev u32 (n : Int) : D := .lit (.int .u32 n)
abbrev u8 (n : Int) : D := .lit (.int .u8 n)
abbrev bo (b : Bool) : D := .lit (.bool b)
abbrev st (s : ByteArray) : D := .lit (.string s)
abbrev nilS : D := .lit (.slice none 0 0)

/-- Slots, of which only some are told. -/
def look (l : List (Nat × D)) (i : Nat) : D :=
  match l with
  | [] => .any
  | (j, d) :: r => if i == j then d else look r i
def mkS (n : Nat) (l : List (Nat × D)) : List D := (List.range n).map (look l)

def maskL (m : Nat) (l : List D) (i : Nat) : List D :=
  match l with
  | [] => []
  | d :: r => (if m.testBit i then d else .any) :: maskL m r (i + 1)
theorem maskL_le (m : Nat) : ∀ (l : List D) (i : Nat), LeL l (maskL m l i)
  | [], _ => .nil
  | d :: r, i => by
    refine .cons ?_ (maskL_le m r (i + 1))
    split
    · exact D.le.refl d
    · exact D.le_any d

/-- Pure operations, as far as it goes, and what is no more needed forgotten. -/
def aStep (P : Program) (ops : Array Oper) (l : List Nat) (m : Nat) (sl : List D) : List D × Option Prop × List Nat :=
  match aRun P ops l sl with
  | (sl', φ, r) => (maskL m sl' 0, φ, r)
theorem AOps_step {ops : Array Oper} {l : List Nat} (m : Nat) (sl' : List D) (φ : Option Prop) (r : List Nat) (h : aStep P ops l m sl = (sl', φ, r)) (hφ : CondOk φ) (k : AOps P ops Q r sl' S) : AOps P ops Q l sl S := by
  unfold aStep at h
  cases hr : aRun P ops l sl with
  | mk sl1 q =>
    obtain ⟨φ1, r1⟩ := q
    simp only [hr, Prod.mk.injEq] at h
    obtain ⟨rfl, rfl, rfl⟩ := h
    exact AOps_run _ _ _ _ _ hr hφ (AOps_weaken (maskL_le m sl1 0) k)
/-- The first 'n' operations alone. -/
theorem AOps_split {ops : Array Oper} {l : List Nat} (n m : Nat) (sl' : List D) (φ : Option Prop) (h : aStep P ops (l.take n) m sl = (sl', φ, [])) (hφ : CondOk φ) (k : AOps P ops Q (l.drop n) sl' S) : AOps P ops Q l sl S := by
  have app : ∀ (l1 l2 : List Nat) (sl sl1 : List D) (φ1 : Option Prop), aRun P ops l1 sl = (sl1, φ1, []) → CondOk φ1 → AOps P ops Q l2 sl1 S → AOps P ops Q (l1 ++ l2) sl S := by
    intro l1
    induction l1 with
    | nil => intro l2 sl sl1 φ1 h _ k; simp only [aRun, Prod.mk.injEq] at h; obtain ⟨rfl, _⟩ := h; exact k
    | cons i l1 ih =>
      intro l2 sl sl1 φ1 h hφ k
      simp only [aRun] at h
      cases ho : ops[i]? with
      | none => simp [ho] at h
      | some o =>
        simp only [ho] at h
        cases hw : awanted ops sl o with
        | none => simp [hw] at h
        | some b =>
          cases b with
          | false =>
            simp only [hw] at h
            have := ih l2 _ _ _ h hφ k
            intro G w a hs hr hd
            exact wpOps_off ho (awanted_sound hr hw) (this G w _ hs (aput_rep hr _ (by simp [Rep, undef])) (by rw [put_defers]; exact hd))
          | true =>
            simp only [hw] at h
            cases ha : aop P sl o.op with
            | none => simp [ha] at h
            | some p =>
              obtain ⟨d, ψ⟩ := p
              simp only [ha] at h
              cases hq : aRun P ops l1 (aput sl o.dst d) with
              | mk sl2 q =>
                obtain ⟨φ2, r2⟩ := q
                simp only [hq, Prod.mk.injEq] at h
                obtain ⟨rfl, rfl, rfl⟩ := h
                obtain ⟨h1, h2⟩ := andO_ok hφ
                have ih' := ih l2 _ _ _ hq h2 k
                intro G w a hs hr hd
                obtain ⟨v, h3, h4⟩ := aop_sound ha h1 G a w hr hs.im
                refine wpOps_some ho (awanted_sound hr hw) ?_
                simp only [Oper.wp, h3, Oper.upon_value]
                exact ih' G w _ hs (aput_rep hr _ h4) (by rw [put_defers]; exact hd)
  unfold aStep at h
  cases hr : aRun P ops (l.take n) sl with
  | mk sl1 q =>
    obtain ⟨φ1, r1⟩ := q
    simp only [hr, Prod.mk.injEq] at h
    obtain ⟨rfl, rfl, rfl⟩ := h
    have := app _ _ _ _ _ hr hφ (AOps_weaken (maskL_le m sl1 0) k)
    rwa [List.take_append_drop] at this

theorem AT_mask {c : Code} (m : Nat) (sl' : List D) (h : maskL m sl 0 = sl') (k : AT P c Q sl' S) : AT P c Q sl S := by
  subst h
  exact AT_weaken (maskL_le m sl 0) k

theorem AT_loop_ind {c : Code} (I : Nat → List D → Store → Prop) (n : Nat) (h : I n sl S)
    (step : ∀ n sl S, I n sl S → AT P c (athen (fun sl' S' => ∃ m, m < n ∧ I m sl' S') Q) sl S) : AT P (.loop c) Q sl S := by
  have key : ∀ n sl S, I n sl S → ∃ m, ARounds P c Q m sl S := by
    intro n
    induction n using Nat.strongRecOn with
    | _ n ih =>
      intro sl S h
      -- as many rounds as may be needed: n + 1
      refine ⟨n + 1, ?_⟩
      have all : ∀ k m sl S, m ≤ k → I m sl S → ARounds P c Q (k + 1) sl S := by
        intro k
        induction k with
        | zero =>
          intro m sl S hm hI
          refine (step m sl S hI).mono fun e sl S hq => ?_
          cases e <;> first | exact hq | (obtain ⟨m', h1, _⟩ := hq; omega)
        | succ k ih2 =>
          intro m sl S hm hI
          refine (step m sl S hI).mono fun e sl S hq => ?_
          cases e <;> first | exact hq | (obtain ⟨m', h1, h2⟩ := hq; exact ih2 m' sl S (by omega) h2)
      exact all n n sl S (Nat.le_refl _) h
  exact AT_loop' (key n sl S h)

/-- What a function hands back: data, and nothing else has turned. -/
def Ret (d : D) (S : Store) : D → Store → Prop := fun r S' => r = d ∧ S' = S
/-- A row that is the caller's own. -/
def RetO (sz : Nat) (es : List (List D)) (S : Store) : D → Store → Prop := fun r S' => ∃ t, S.tk t = none ∧ r = .sl sz es (some t) ∧ S' = S.setTk t (some (es.length, sz))
/-- A row and more. -/
def RetO2 (sz : Nat) (es : List (List D)) (d : D) (S : Store) : D → Store → Prop := fun r S' => ∃ t, S.tk t = none ∧ r = .tup [.sl sz es (some t), d] ∧ S' = S.setTk t (some (es.length, sz))

theorem sl_le {sz : Nat} {es : List (List D)} {tl : Option Nat} : (D.sl sz es tl).le (.sl sz es none) := fun G v h => by
  simp only [Rep] at *
  obtain ⟨A, c, h1, h2, _, h4⟩ := h
  exact ⟨A, c, h1, h2, fun t ht => (by cases ht), h4⟩
theorem nil_le {sz : Nat} : nilS.le (.sl sz [] none) := fun G v h => by
  simp only [Rep] at *
  exact ⟨none, 0, h, Nat.le_refl _, fun t ht => (by cases ht), .inl trivial⟩
theorem LeL.set {l : List D} {i : Nat} {d d' : D} (hd : l[i]? = some d) (h : d.le d') : LeL l (l.set i d') := by
  induction l generalizing i with
  | nil => simp at hd
  | cons x l ih =>
    cases i with
    | zero => simp at hd; subst hd; exact .cons h (LeL.refl l)
    | succ i => simp at hd; exact .cons (D.le.refl x) (ih hd)
theorem RetO.shared {sz : Nat} {es : List (List D)} {S : Store} {r : D} {S' : Store} (h : RetO sz es S r S') : r.le (.sl sz es none) ∧ S'.le S := by
  obtain ⟨t, h1, rfl, rfl⟩ := h
  refine ⟨sl_le, fun k o x => x, fun k o x => ?_⟩
  simp only [Store.tk_setTk]
  rw [if_neg (fun e => by subst e; rw [h1] at x; cases x)]
  exact x
end Go.Proofs.Ytfaojkajlpojlaa.Abs
