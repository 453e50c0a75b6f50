/- The words of the printed walks: what a store comes to; appends, calls. -/
import Derived.Test.YtfaojkajlpojlaaAbsJ
namespace Go.Proofs.Ytfaojkajlpojlaa.Abs
open Go Go.RowKit

variable {P : Program} {Q : Exit → List D → Store → Prop} {sl : List D} {S : Store}

theorem athen_n {next : List D → Store → Prop} (h : next sl S) : athen next Q .normal sl S := h
theorem athen_e {next : List D → Store → Prop} {id : Nat} (h : Q (.exit id) sl S) : athen next Q (.exit id) sl S := h
theorem athen_r {next : List D → Store → Prop} (h : Q .ret sl S) : athen next Q .ret sl S := h
theorem ablock_n {id : Nat} (h : Q .normal sl S) : ablock id Q .normal sl S := h
theorem ablock_h {id : Nat} (h : Q .normal sl S) : ablock id Q (.exit id) sl S := by simp only [ablock, if_true]; exact h
theorem ablock_o {id id' : Nat} (hne : id' ≠ id) (h : Q (.exit id') sl S) : ablock id Q (.exit id') sl S := by simp only [ablock, if_neg hne]; exact h
theorem ablock_r {id : Nat} (h : Q .ret sl S) : ablock id Q .ret sl S := h

/-- One token has turned. -/
structure Upd (S S' : Store) (t : Nat) (x : Nat × Nat) : Prop where
  at_ : S'.tk t = some x
  ne : ∀ j, j ≠ t → S'.tk j = S.tk j
  ob : ∀ j, S'.ob j = S.ob j
theorem Upd.mk' (S : Store) (t : Nat) (x : Nat × Nat) : Upd S (S.setTk t (some x)) t x := ⟨by simp, fun j h => by simp [h], fun j => rfl⟩
theorem Upd.le {S0 S S' : Store} {t : Nat} {x : Nat × Nat} (u : Upd S S' t x) (h : S.le S0) (hf : S0.tk t = none) : S'.le S0 where
  ob := fun k o y => by rw [u.ob]; exact h.ob k o y
  tk := fun k o y => by rw [u.ne k (fun e => by subst e; rw [hf] at y; cases y)]; exact h.tk k o y
theorem Upd.tk {S S' : Store} {t t2 : Nat} {x y : Nat × Nat} (u : Upd S S' t x) (h : S.tk t2 = some y) (hne : t2 ≠ t) : S'.tk t2 = some y := by rw [u.ne t2 hne]; exact h
theorem le_setTk {S S0 : Store} {t : Nat} {x : Nat × Nat} (h : S.le S0) (ht : S.tk t = some x) : S.le (S0.setTk t (some x)) where
  ob := fun k o y => h.ob k o y
  tk := fun k o y => by
    simp only [Store.tk_setTk] at y
    split at y
    · rename_i e; subst e; cases y; exact ht
    · exact h.tk k o y
theorem fresh_le {S S0 : Store} {t : Nat} (h : S.le S0) (ht : S.tk t = none) : S0.tk t = none := by
  cases hx : S0.tk t with
  | none => rfl
  | some x => have := h.tk _ _ hx; rw [ht] at this; cases this
theorem ne_of_fresh {S : Store} {t t2 : Nat} {y : Nat × Nat} (h : S.tk t2 = some y) (ht : S.tk t = none) : t2 ≠ t := fun e => by subst e; rw [h] at ht; cases ht

theorem AOps_appendU {ops : Array Oper} {i : Nat} {l : List Nat} {o : Oper} {t t2 e sz bytes tk : Nat} {s x : Operand} {es xs : List (List D)} {tl : Option Nat} (n : Nat) (ho : ops[i]? = some o) (hw : awanted ops sl o = some true)
    (hop : o.op = .call { callee := .builtin .append, args := #[s, x], argTypes := #[t, t2] }) (he : elemT P t = some e) (hok : appOk P e sz bytes = true)
    (hsl : aval sl s = .sl sz es (some tk)) (htk : S.tk tk = some (n, sz)) (hn : n = es.length)
    (hx : (∃ e2, P.underlying t2 = some (.slice e2) ∧ aval sl x = .sl sz xs tl) ∨ (∃ b, P.underlying t2 = some .string ∧ aval sl x = .lit (.string b) ∧ sz = 1 ∧ xs = bytesD b))
    (hfit : (n + xs.length) * bytes ≤ 140737488355328) (h63 : n + xs.length ≤ 9223372036854775807)
    (h : ∀ S', Upd S S' tk (n + xs.length, sz) → AOps P ops Q l (aput sl o.dst (.sl sz (es ++ xs) (some tk))) S') : AOps P ops Q (i :: l) sl S := by
  subst hn
  exact AOps_append ho hw hop rfl he hok hsl htk hx hfit h63 (h _ (Upd.mk' S tk _))
theorem AOps_appendN {ops : Array Oper} {i : Nat} {l : List Nat} {o : Oper} {t t2 e sz bytes : Nat} {s x : Operand} {xs : List (List D)} {tl : Option Nat} (ho : ops[i]? = some o) (hw : awanted ops sl o = some true)
    (hop : o.op = .call { callee := .builtin .append, args := #[s, x], argTypes := #[t, t2] }) (he : elemT P t = some e) (hok : appOk P e sz bytes = true)
    (hsl : aval sl s = .lit (.slice none 0 0))
    (hx : (∃ e2, P.underlying t2 = some (.slice e2) ∧ aval sl x = .sl sz xs tl) ∨ (∃ b, P.underlying t2 = some .string ∧ aval sl x = .lit (.string b) ∧ sz = 1 ∧ xs = bytesD b))
    (hfit : xs.length * bytes ≤ 140737488355328) (h63 : xs.length ≤ 9223372036854775807)
    (h : ∀ S' tk, S.tk tk = none → Upd S S' tk (xs.length, sz) → AOps P ops Q l (aput sl o.dst (.sl sz xs (some tk))) S') : AOps P ops Q (i :: l) sl S :=
  AOps_append_nil ho hw hop rfl he hok hsl hx hfit h63 fun tk hf => h _ tk hf (Upd.mk' S tk _)
theorem AOps_litU {ops : Array Oper} {i : Nat} {l : List Nat} {o : Oper} {t e sz n : Nat} {parts : Array (Nat × Operand)} {es : List (List D)} (ho : ops[i]? = some o) (hw : awanted ops sl o = some true) (hop : o.op = .buildSlice t n parts)
    (he : elemT P t = some e) (hsz : cellsN P e = some sz) (hpos : 0 < sz) (hz : (zeroD P e).isSome = true) (hn : n * sz ≤ 16777216) (hlen : parts.toList.map (·.1) = List.range n) (hes : parts.toList.map (fun p => cellsD (aval sl p.2)) = es.map some) (hes2 : ∀ x ∈ es, x.length = sz)
    (h : ∀ S' tk, S.tk tk = none → Upd S S' tk (n, sz) → AOps P ops Q l (aput sl o.dst (.sl sz es (some tk))) S') : AOps P ops Q (i :: l) sl S :=
  AOps_lit ho hw hop he hsz hpos hz hn hlen hes hes2 fun tk hf => h _ tk hf (Upd.mk' S tk _)
/-- The same, where nobody appends to it. -/
theorem AOps_litS {ops : Array Oper} {i : Nat} {l : List Nat} {o : Oper} {t e sz n : Nat} {parts : Array (Nat × Operand)} {es : List (List D)} (ho : ops[i]? = some o) (hw : awanted ops sl o = some true) (hop : o.op = .buildSlice t n parts)
    (he : elemT P t = some e) (hsz : cellsN P e = some sz) (hpos : 0 < sz) (hz : (zeroD P e).isSome = true) (hn : n * sz ≤ 16777216) (hlen : parts.toList.map (·.1) = List.range n) (hes : parts.toList.map (fun p => cellsD (aval sl p.2)) = es.map some) (hes2 : ∀ x ∈ es, x.length = sz)
    (h : AOps P ops Q l (aput sl o.dst (.sl sz es none)) S) : AOps P ops Q (i :: l) sl S := by
  refine AOps_lit ho hw hop he hsz hpos hz hn hlen hes hes2 fun tk hf => AOps_weaken ?_ (AOps_store (S' := S) ⟨fun k o x => x, fun k o x => ?_⟩ h)
  rotate_left
  · simp only [Store.tk_setTk]
    rw [if_neg (fun e => by subst e; rw [hf] at x; cases x)]
    exact x
  · cases o.dst with
    | none => exact LeL.refl _
    | some d =>
      simp only [aput]
      have key : ∀ (l : List D) (d : Nat), LeL (l.set d (.sl sz es (some tk))) (l.set d (.sl sz es none)) := by
        intro l
        induction l with
        | nil => intro d; exact .nil
        | cons x l ih =>
          intro d
          cases d with
          | zero => exact .cons sl_le (LeL.refl l)
          | succ d => exact .cons (D.le.refl x) (ih d)
      exact key sl d

theorem AT_nilU {c : Code} (i sz : Nat) (sl' : Nat → List D) (hi : sl[i]? = some nilS) (hs : ∀ tk, sl.set i (.sl sz [] (some tk)) = sl' tk) (h : ∀ S' tk, S.tk tk = none → Upd S S' tk (0, sz) → AT P c Q (sl' tk) S') : AT P c Q sl S :=
  AT_nil_tk i sz hi fun tk hf => by rw [hs tk]; exact h _ tk hf (Upd.mk' S tk _)

/-- A call whose answer is plain. -/
theorem AOps_callR {ops : Array Oper} {i : Nat} {l : List Nat} {o : Oper} {c : Call} {f : FuncId} {first captured : List D} {fo : Operand} (R : D → Store → Prop) (args : List D) (ho : ops[i]? = some o) (hop : o.op = .call c) (hcal : c.callee = .value fo)
    (hf : aval sl fo = .fn (.func f) first captured) (hw : awanted ops sl o = some true) {fn : Func} (hfn : P.funcs[f]? = some fn) (hname : fn.name ≠ "runtime.NumGoroutine") (hbody : fn.body.isSome = true)
    (ha : LeL (first ++ c.args.toList.map (aval sl) ++ captured) args) (hc : ACalls P f args S R)
    (h : ∀ r S', R r S' → AOps P ops Q l (aput sl o.dst r) S') : AOps P ops Q (i :: l) sl S :=
  AOps_call ho hop hcal hf hw hfn hname hbody ((hc.args ha).mono h)

theorem AOps_caseS {ops : Array Oper} {l : List Nat} (i : Nat) (b : Bool) (hi : sl[i]? = some (.lit (.bool b))) (sl1 sl2 : List D) (e1 : sl.set i (bo true) = sl1) (e2 : sl.set i (bo false) = sl2)
    (h1 : b = true → AOps P ops Q l sl1 S) (h2 : b = false → AOps P ops Q l sl2 S) : AOps P ops Q l sl S := by
  subst e1 e2
  exact AOps_case i b hi h1 h2
theorem AT_condS {c : Operand} {x y : Code} (t : Bool) (hc : aval sl c = .lit (.bool t)) (h1 : t = true → AT P x Q sl S) (h2 : t = false → AT P y Q sl S) : AT P (.cond c x y) Q sl S := AT_cond hc h1 h2

theorem if_t {α : Type} {b : Bool} {x y : α} (h : b = true) : (if b = true then x else y) = x := if_pos h
theorem if_f {α : Type} {b : Bool} {x y : α} (h : b = false) : (if b = true then x else y) = y := if_neg (by rw [h]; decide)

theorem tl_get {ops : Array Oper} {i : Nat} {o : Oper} (h : ops.toList[i]? = some o) : ops[i]? = some o := by simpa using h
theorem AOps_seg {ops : Array Oper} {l : List Nat} (n m : Nat) (sl' : List D) (φ : Option Prop) (l' : List Nat) (h : aStep P ops (l.take n) m sl = (sl', φ, [])) (hl : l.drop n = l') (hφ : CondOk φ) (k : AOps P ops Q l' sl' S) : AOps P ops Q l sl S :=
  AOps_split n m sl' φ h hφ (hl ▸ k)
theorem AOps_to {ops : Array Oper} {l : List Nat} (sl' : List D) (h : sl = sl') (k : AOps P ops Q l sl' S) : AOps P ops Q l sl S := h ▸ k
theorem AOps_forget {ops : Array Oper} {l : List Nat} (m : Nat) (sl' : List D) (h : maskL m sl 0 = sl') (k : AOps P ops Q l sl' S) : AOps P ops Q l sl S := AOps_weaken (maskL_le m sl 0) (h ▸ k)
theorem AT_to {c : Code} (sl' : List D) (h : sl = sl') (k : AT P c Q sl' S) : AT P c Q sl S := h ▸ k
theorem AOps_end {ops : Array Oper} (h : Q .normal sl S) : AOps P ops Q [] sl S := AOps_nil h
theorem AT_forget {c : Code} (m : Nat) (sl' : List D) (h : maskL m sl 0 = sl') (k : AT P c Q sl' S) : AT P c Q sl S := AT_mask m sl' h k

theorem AT_cutM {c d : Code} (m : Nat) (M : List D → Store → Prop) (h : AT P c (athen (fun sl S => M (maskL m sl 0) S) Q) sl S) (k : ∀ sl S, M sl S → AT P d Q sl S) : AT P (.seq c d) Q sl S :=
  AT_cut (fun sl S => M (maskL m sl 0) S) h fun sl S hM => AT_weaken (maskL_le m sl 0) (k _ _ hM)
theorem AT_loopM {c : Code} (m : Nat) (I : Nat → List D → Store → Prop) (n : Nat) (h : I n (maskL m sl 0) S)
    (step : ∀ n sl S, I n sl S → AT P c (athen (fun sl' S' => ∃ j, j < n ∧ I j (maskL m sl' 0) S') Q) sl S) : AT P (.loop c) Q sl S :=
  AT_loop_ind (fun n sl S => I n (maskL m sl 0) S) n h fun n sl S hI => AT_weaken (maskL_le m sl 0) (step n _ S hI)

abbrev eI (n : Int) : List D := [i64 n]
abbrev eU (n : Int) : List D := [u64 n]
abbrev eB (b : UInt8) : List D := [u8 (b.toNat : Int)]
abbrev eO (b : Bool) : List D := [bo b]
abbrev str (l : List UInt8) : D := .lit (.string ⟨l.toArray⟩)
abbrev eS (l : List UInt8) : List D := [str l]
abbrev eL {α : Type} (sz : Nat) (e : α → List D) (l : List α) : List D := [.sl sz (l.map e) none]
abbrev w64 (n : Int) : Int := IntKind.wrap .i64 n

def rd {α : Type} (l : List α) (i : Int) (d : α) : α := l.getD i.toNat d
def b8 (n : Int) : UInt8 := UInt8.ofNat n.toNat
theorem b8_toNat {n : Int} (h0 : 0 ≤ n) (h1 : n < 256) : ((b8 n).toNat : Int) = n := by
  simp only [b8, UInt8.toNat_ofNat']
  omega
theorem bytesD_eq (l : List UInt8) : bytesD ⟨l.toArray⟩ = l.map eB := by simp [bytesD]
theorem bytesD_len (l : List UInt8) : (bytesD ⟨l.toArray⟩).length = l.length := by simp [bytesD]
theorem pt_rd {α : Type} (enc : α → List D) (l : List α) (i : Int) (d : α) (h0 : 0 ≤ i) (h1 : i < (l.length : Int)) : (l.map enc).getD i.toNat [] = enc (rd l i d) := by
  have : i.toNat < l.length := by omega
  simp [rd, List.getD, this]

theorem idx_ok {α : Type} {e : α → List D} {l : List α} {i : Int} (h : 0 ≤ i ∧ i < (l.length : Int)) : 0 ≤ i ∧ i < ((l.map e).length : Int) := by rw [List.length_map]; exact h
theorem ag_le {l l' : List D} (h : LeL l l') : (D.ag l).le (.ag l') := fun G v r => by
  simp only [Rep] at *
  obtain ⟨vs, h1, h2⟩ := r
  exact ⟨vs, h1, h.rep h2.1, h2.2⟩
theorem tup_le {l l' : List D} (h : LeL l l') : (D.tup l).le (.tup l') := fun G v r => by
  simp only [Rep] at *
  obtain ⟨vs, h1, h2⟩ := r
  exact ⟨vs, h1, h.rep h2⟩

/-- Several answers: plain ones, and rows that are the caller's own. -/
inductive RP where
  | p (d : D)
  | o (sz : Nat) (es : List (List D))
def RPs : List RP → Store → List D → Store → Prop
  | [], S, ds, S' => ds = [] ∧ S' = S
  | .p d :: r, S, ds, S' => ∃ ds', ds = d :: ds' ∧ RPs r S ds' S'
  | .o sz es :: r, S, ds, S' => ∃ t ds', S.tk t = none ∧ ds = .sl sz es (some t) :: ds' ∧ RPs r (S.setTk t (some (es.length, sz))) ds' S'
def RetL (ps : List RP) (S : Store) : D → Store → Prop := fun r S' => ∃ ds, r = .tup ds ∧ RPs ps S ds S'

/-- More rounds tell the same. -/
def LeO {α : Type} (x y : Option α) : Prop := ∀ r, x = some r → y = some r
theorem LeO.refl {α : Type} (x : Option α) : LeO x x := fun _ h => h
theorem LeO.none {α : Type} (y : Option α) : LeO Option.none y := fun _ h => by cases h
theorem LeO.ite {α : Type} {c : Prop} [Decidable c] {x x' y y' : Option α} (h : LeO x x') (k : LeO y y') : LeO (if c then x else y) (if c then x' else y') := by
  split
  · exact h
  · exact k
theorem LeO.bind {α β : Type} {x x' : Option α} {f g : α → Option β} (h : LeO x x') (k : ∀ a, LeO (f a) (g a)) : LeO (x.bind f) (x'.bind g) := fun r hr => by
  obtain ⟨a, h1, h2⟩ := Option.bind_eq_some_iff.1 hr
  rw [h a h1]
  exact k a r h2
theorem LeO.trans {α : Type} {x y z : Option α} (h : LeO x y) (k : LeO y z) : LeO x z := fun r hr => k r (h r hr)
theorem mono_le {α : Type} {f : Nat → Option α} (h : ∀ k, LeO (f k) (f (k + 1))) {m n : Nat} (hmn : m ≤ n) : LeO (f m) (f n) := by
  induction hmn with
  | refl => exact LeO.refl _
  | step _ ih => exact ih.trans (h _)
end Go.Proofs.Ytfaojkajlpojlaa.Abs
