/- Operations that only compute or read what cannot change: what they give, and that the machine gives it. -/
import Derived.Test.YtfaojkajlpojlaaAbsA
import Derived.Laws.Sem
import Derived.Laws.Strings
namespace Go.Proofs.Ytfaojkajlpojlaa.Abs
open Go Go.RowKit

variable {P : Program}

def cellsN (P : Program) (t : TypeId) : Option Nat := (P.info? t).map (·.size)
def aggT (P : Program) (t : TypeId) : Option Bool :=
  match P.underlying t with
  | some (.struct _) | some (.array _ _) => some true
  | some _ => some false
  | none => none
def fieldOf (P : Program) (s : TypeId) (i : Nat) : Option Field :=
  match P.underlying s with
  | some (.struct fs) => fs[i]?
  | _ => none
def elemT (P : Program) (t : TypeId) : Option TypeId :=
  match P.underlying t with
  | some (.slice e) => some e
  | _ => none

theorem run_underlying {t : TypeId} {d : TypeDesc} (h : P.underlying t = some d) (w : World) : (underlying t).run P w = .ok d w := by
  simp [underlying, h]
theorem run_sizeOf {t : TypeId} {n : Nat} (h : cellsN P t = some n) (w : World) : (sizeOf t).run P w = .ok n w := by
  unfold cellsN at h
  cases hi : P.info? t with
  | none => simp [hi] at h
  | some i => simp [hi] at h; simp [sizeOf, typeInfo, hi, h]
theorem run_isAgg {t : TypeId} {b : Bool} (h : aggT P t = some b) (w : World) : (isAgg t).run P w = .ok b w := by
  unfold aggT at h
  cases hu : P.underlying t with
  | none => simp [hu] at h
  | some d =>
    simp only [isAgg, Sem.run_bind, run_underlying hu, Result.andThen_ok]
    cases d <;> simp [hu] at h <;> subst h <;> rfl

theorem RepL.take {G : Gh} : ∀ {ds : List D} {vs : List Value} (n : Nat), RepL G ds vs → RepL G (ds.take n) (vs.take n)
  | _, _, 0, _ => by simp [RepL]
  | [], vs, n + 1, h => by simp only [RepL] at h; subst h; simp [RepL]
  | d :: ds, vs, n + 1, h => by
    simp only [RepL] at h
    obtain ⟨x, r, rfl, h2, h3⟩ := h
    simp only [List.take_succ_cons, RepL]
    exact ⟨x, _, rfl, h2, h3.take n⟩
theorem RepL.drop {G : Gh} : ∀ {ds : List D} {vs : List Value} (n : Nat), RepL G ds vs → RepL G (ds.drop n) (vs.drop n)
  | _, _, 0, h => by simpa using h
  | [], vs, n + 1, h => by simp only [RepL] at h; subst h; simp [RepL]
  | d :: ds, vs, n + 1, h => by
    simp only [RepL] at h
    obtain ⟨x, r, rfl, h2, h3⟩ := h
    simpa using h3.drop n

/-- A part of a struct or an array. -/
def partD (P : Program) (t : TypeId) (cs : List D) (off : Nat) : Option D :=
  match aggT P t with
  | some true => (cellsN P t).map fun n => .ag ((cs.drop off).take n)
  | some false => cs[off]?
  | none => none
theorem part_rep {G : Gh} {t : TypeId} {cs : List D} {vs : List Value} {off : Nat} {d : D} (h : partD P t cs off = some d) (hr : RepL G cs vs) (h1 : One vs) (w : World) :
    ∃ v, (part t vs.toArray off).run P w = .ok v w ∧ Rep G d v := by
  unfold partD at h
  cases ha : aggT P t with
  | none => simp [ha] at h
  | some b =>
    cases b with
    | true =>
      simp only [ha, Option.map_eq_some_iff] at h
      obtain ⟨n, h2, rfl⟩ := h
      refine ⟨.agg ((vs.drop off).take n).toArray, ?_, ?_⟩
      · simp only [part, Sem.run_bind, run_isAgg ha, Result.andThen_ok, Sem.run_ite, if_true, run_sizeOf h2, Sem.run_pure]
        congr 2
        apply Array.ext'
        simp [List.extract_eq_take_drop]
      · simp only [Rep]; exact ⟨_, rfl, (hr.drop off).take n, (h1.drop off).take n⟩
    | false =>
      simp only [ha] at h
      obtain ⟨v, h3, h2⟩ := hr.get _ _ h
      refine ⟨v, ?_, h2⟩
      simp only [part, Sem.run_bind, run_isAgg ha, Result.andThen_ok, Sem.run_ite, Bool.false_eq_true, if_false]
      simp [h3]

/-! ### Arithmetic -/
def ibits (op : BinOp) (k : IntKind) (x y : Int) : Int :=
  let a := BitVec.ofInt k.bits x
  let b := BitVec.ofInt k.bits y
  k.wrap (match op with | .and => (a &&& b).toNat | .or => (a ||| b).toNat | .xor => (a ^^^ b).toNat | _ => (a &&& ~~~b).toNat : Nat)

def CondOk : Option Prop → Prop
  | none => True
  | some p => p

def aBin (op : BinOp) (x y : Value) : Option (Value × Option Prop) :=
  match x, y with
  | .int k a, .int k' b =>
    match op with
    | .shl => some (.int k (k.wrap (a * 2 ^ min b.toNat k.bits)), some (0 ≤ b))
    | .shr => some (.int k (a.fdiv (2 ^ min b.toNat k.bits)), some (0 ≤ b))
    | op =>
      if k = k' then
        match op with
        | .add => some (.int k (k.wrap (a + b)), none)
        | .sub => some (.int k (k.wrap (a - b)), none)
        | .mul => some (.int k (k.wrap (a * b)), none)
        | .quo => some (.int k (k.wrap (a.tdiv b)), some (b ≠ 0))
        | .rem => some (.int k (a.tmod b), some (b ≠ 0))
        | .and => some (.int k (ibits .and k a b), none)
        | .or => some (.int k (ibits .or k a b), none)
        | .xor => some (.int k (ibits .xor k a b), none)
        | .andNot => some (.int k (ibits .andNot k a b), none)
        | .eql => some (.bool (a == b), none)
        | .neq => some (.bool (a != b), none)
        | .lss => some (.bool (decide (a < b)), none)
        | .leq => some (.bool (decide (a ≤ b)), none)
        | .gtr => some (.bool (decide (a > b)), none)
        | .geq => some (.bool (decide (a ≥ b)), none)
        | _ => none
      else none
  | .string a, .string b =>
    match op with
    | .add => some (.string ⟨(a.data.toList ++ b.data.toList).toArray⟩, some (((a.data.toList.length + b.data.toList.length : Nat) : Int) ≤ 9223372036854775807))
    | .eql => some (.bool (a.data.toList == b.data.toList), none)
    | .neq => some (.bool (!(a.data.toList == b.data.toList)), none)
    | .lss => some (.bool (Op.bytesLess a.data.toList b.data.toList), none)
    | .leq => some (.bool (Op.bytesLess a.data.toList b.data.toList || a.data.toList == b.data.toList), none)
    | .gtr => some (.bool (!(Op.bytesLess a.data.toList b.data.toList || a.data.toList == b.data.toList)), none)
    | .geq => some (.bool (!Op.bytesLess a.data.toList b.data.toList), none)
    | _ => none
  | _, _ => none

theorem aBin_sound {op : BinOp} {x y v : Value} {φ : Option Prop} (h : aBin op x y = some (v, φ)) (hφ : CondOk φ) (t : TypeId) (ox oy : Operand) (w : World) :
    (do eqGuard op t ox oy x y; binOp op t x y : Sem Value).run P w = .ok v w := by
  cases x <;> cases y <;> simp only [aBin] at h <;> try (cases h; done)
  · rename_i k a k' b
    by_cases hk : k = k'
    · subst hk
      cases op <;> simp only [reduceIte, Option.some.injEq, Prod.mk.injEq, reduceCtorEq] at h <;> obtain ⟨rfl, rfl⟩ := h <;>
        simp [eqGuard, binOp, Op.intArith, Op.intDiv, Op.intBits, Op.intCmp, Op.shift, ibits]
      all_goals first
        | exact fun h => absurd h (show _ ≠ _ from hφ)
        | (have hφ : 0 ≤ b := hφ; intro h; omega)
        | (intro h; omega)
    · cases op <;> simp only [hk, reduceIte, Option.some.injEq, Prod.mk.injEq, reduceCtorEq] at h <;> obtain ⟨rfl, rfl⟩ := h <;>
        simp [eqGuard, binOp, Op.shift] <;> (have hφ : 0 ≤ b := hφ; intro h; omega)
  · rename_i a b
    have ea : a.toList = a.data.toList := ByteArray.toList_eq a
    have eb : b.toList = b.data.toList := ByteArray.toList_eq b
    have eap : a ++ b = ⟨(a.data.toList ++ b.data.toList).toArray⟩ := by
      apply ByteArray.ext
      apply Array.ext'
      simp
    have sa : a.data.toList.length = a.size := by simp
    have sb : b.data.toList.length = b.size := by simp
    cases op <;> simp only [reduceIte, Option.some.injEq, Prod.mk.injEq, reduceCtorEq] at h <;> obtain ⟨rfl, rfl⟩ := h <;> simp only [eqGuard, binOp, Op.stringOp, ea, eb, eap] <;> simp
    have hφ : ((a.data.toList.length + b.data.toList.length : Nat) : Int) ≤ 9223372036854775807 := hφ
    rw [sa, sb] at hφ
    push_cast at hφ
    exact hφ

def aUn (op : UnOp) (x : Value) : Option Value :=
  match op, x with
  | .neg, .int k n => some (.int k (k.wrap (0 - n)))
  | .xor, .int k n => some (.int k (ibits .xor k (if k.signed then -1 else k.max) n))
  | .not, .bool b => some (.bool !b)
  | _, _ => none
theorem aUn_sound {op : UnOp} {x v : Value} (h : aUn op x = some v) (w : World) : (Op.unary op x).run P w = .ok v w := by
  cases op <;> cases x <;> simp [aUn] at h <;> subst h <;> simp [Op.unary, Op.intArith, Op.intBits, ibits]

/-! ### One operation -/
/-- Whatever the world, where what cannot change is as it was: this value. -/
def PureOp (P : Program) (o : Oper) (sl : List D) (d : D) : Prop :=
  ∀ (G : Gh) (a : Act) (w : World), RepL G sl a.tmps.toList → (∀ b o v, G.im b o = some v → w.cell? ⟨b, o, none⟩ = some v) →
    ∃ v, (execOp a.eval o).run P w = .ok (.value v) w ∧ Rep G d v

def IntOf : D → Option Int
  | .lit (.int _ n) => some n
  | _ => none

def fillD (cells : List D) : List (Nat × Nat × List D) → Option (List D)
  | [] => some cells
  | (off, size, cs) :: rest => if cs.length ≠ size ∨ off + cs.length > cells.length then none else fillD (cells.take off ++ cs ++ cells.drop (off + cs.length)) rest

def cellsD : D → Option (List D)
  | .ag cs => some cs
  | .tup _ => none
  | .any => none
  | .lit (.agg _) => none
  | .lit (.tuple _) => none
  | d => some [d]

/-- The places that 'build' fills. -/
def placesD (P : Program) (t : TypeId) (sl : List D) : List (Nat × Operand) → Option (List (Nat × Nat × List D))
  | [] => some []
  | (i, x) :: r =>
    match P.underlying t with
    | some (.struct fs) =>
      match fs[i]?, cellsD (aval sl x) with
      | some f, some cs => (cellsN P f.type).bind fun n => (placesD P t sl r).map fun l => (f.offset, n, cs) :: l
      | _, _ => none
    | some (.array _ e) =>
      match cellsD (aval sl x) with
      | some cs => (cellsN P e).bind fun n => (placesD P t sl r).map fun l => (i * n, n, cs) :: l
      | none => none
    | _ => none

def buildOk (P : Program) (t : TypeId) : Bool :=
  match P.underlying t with
  | some (.struct fs) => fs.toList.all fun f => (cellsN P f.type).isSome
  | some (.array _ e) => (cellsN P e).isSome
  | _ => false

/-! '==' -/
def eqT (P : Program) : Nat → TypeId → D → D → Option Bool
  | 0, _, _, _ => none
  | d + 1, t, x, y =>
    match P.underlying t with
    | some (.int _) => match x, y with | .lit (.int k a), .lit (.int k' b) => if k = k' then some (a == b) else none | _, _ => none
    | some .bool => match x, y with | .lit (.bool a), .lit (.bool b) => some (a == b) | _, _ => none
    | some .string => match x, y with | .lit (.string a), .lit (.string b) => some (a.data.toList == b.data.toList) | _, _ => none
    | some (.struct fs) =>
      match x, y with
      | .ag xs, .ag ys => if P.stoodInHeld t then none else
        fs.toList.foldr (fun f r => if f.name = "_" then r else
          match partD P f.type xs f.offset, partD P f.type ys f.offset with
          | some a, some b => (eqT P d f.type a b).bind fun e => r.map fun s => e && s
          | _, _ => none) (some true)
      | _, _ => none
    | _ => none

def aop (P : Program) (sl : List D) (op : Op) : Option (D × Option Prop) :=
  match op with
  | .move x | .assign x => some (aval sl x, none)
  | .pick c a b =>
    match aval sl c with
    | .lit (.bool true) => some (aval sl a, none)
    | .lit (.bool false) => some (aval sl b, none)
    | _ => none
  | .binOp op t x y _ =>
    match aval sl x, aval sl y with
    | .lit x, .lit y =>
      match aBin op x y with
      | some (v, φ) => some (.lit v, φ)
      | none =>
        match op with
        | .eql => (eqT P 1 t (.lit x) (.lit y)).map fun b => (.lit (.bool b), none)
        | .neq => (eqT P 1 t (.lit x) (.lit y)).map fun b => (.lit (.bool !b), none)
        | _ => none
    | .ag xs, .ag ys =>
      match op with
      | .eql => if P.eqGuardType P.depth t then none else (eqT P 9 t (.ag xs) (.ag ys)).map fun b => (.lit (.bool b), none)
      | .neq => if P.eqGuardType P.depth t then none else (eqT P 9 t (.ag xs) (.ag ys)).map fun b => (.lit (.bool !b), none)
      | _ => none
    | _, _ => none
  | .unOp op _ x =>
    match aval sl x with
    | .lit x => (aUn op x).map fun v => (.lit v, none)
    | _ => none
  | .convert src dst x =>
    match P.underlying src, P.underlying dst, aval sl x with
    | some _, some (.int k), .lit (.int _ n) => some (.lit (.int k (k.wrap n)), none)
    | some _, some .string, .lit (.string s) => some (.lit (.string s), none)
    | _, _, _ => none
  | .extract t i =>
    match aval sl t with
    | .tup ds => ds[i]?.map fun d => (d, none)
    | _ => none
  | .makeFunc f first captured => some (.fn f (first.toList.map (aval sl)) (captured.toList.map (aval sl)), none)
  | .field t x i =>
    match fieldOf P t i, aval sl x with
    | some f, .ag cs => (partD P f.type cs f.offset).map fun d => (d, none)
    | _, _ => none
  | .nilCheck x =>
    match aval sl x with
    | .pt cs => some (.pt cs, none)
    | .ob b o => some (.ob b o, none)
    | .fn (.func f) a b => some (.fn (.func f) a b, none)
    | _ => none
  | .fieldAddr t x i =>
    match fieldOf P t i, aval sl x with
    | some f, .pt cs => (cellsN P f.type).bind fun n => if n = 0 then none else some (.pt ((cs.drop f.offset).take n), none)
    | some f, .ob b o => (cellsN P f.type).bind fun n => if n = 0 then none else some (.ob b (o + f.offset), none)
    | _, _ => none
  | .indexAddr t x i =>
    match elemT P t, aval sl x, aval sl i with
    | some e, .sl sz es _, .lit (.int _ n) => if cellsN P e = some sz then some (.pt (es.getD n.toNat []), some (0 ≤ n ∧ n < es.length)) else none
    | some e, .vw b o m _, .lit (.int _ n) => (cellsN P e).map fun sz => (.ob b (o + n.toNat * sz), some (0 ≤ n ∧ n < m))
    | _, _, _ => none
  | .index t x i =>
    match P.underlying t, aval sl x, aval sl i with
    | some .string, .lit (.string s), .lit (.int _ n) => some (.lit (.int .u8 (s.data.toList.getD n.toNat 0).toNat), some (0 ≤ n ∧ n < s.data.toList.length))
    | some (.array len e), .ag cs, .lit (.int _ n) => (cellsN P e).bind fun sz =>
        match aggT P e with
        | some true => some (.ag ((cs.drop (n.toNat * sz)).take sz), some (0 ≤ n ∧ n < len))
        | some false => some (cs.getD (n.toNat * sz) .any, some (0 ≤ n ∧ n < len ∧ n.toNat * sz < cs.length))
        | none => none
    | _, _, _ => none
  | .load t x =>
    match aval sl x, aggT P t with
    | .pt cs, some true => if cellsN P t = some cs.length then some (.ag cs, none) else none
    | .pt (d :: _), some false => some (d, none)
    | _, _ => none
  | .call { callee := .builtin .len, args, argTypes } =>
    match (argTypes[0]?).bind P.underlying, args[0]? with
    | some (.slice _), some x =>
      match aval sl x with
      | .sl _ es _ => some (.lit (.int .i64 es.length), none)
      | .vw _ _ n _ => some (.lit (.int .i64 n), none)
      | .lit (.slice _ n _) => some (.lit (.int .i64 n), none)
      | _ => none
    | some .string, some x =>
      match aval sl x with
      | .lit (.string s) => some (.lit (.int .i64 s.data.toList.length), none)
      | _ => none
    | some (.array n _), some _ => some (.lit (.int .i64 n), none)
    | _, _ => none
  | .call { callee := .builtin .min, args, argTypes := _ } =>
    match args.toList with
    | [x, y] =>
      match aval sl x, aval sl y with
      | .lit (.int k a), .lit (.int _ b) => some (.lit (.int k (if b < a then b else a)), none)
      | _, _ => none
    | _ => none
  | .call { callee := .builtin .max, args, argTypes := _ } =>
    match args.toList with
    | [x, y] =>
      match aval sl x, aval sl y with
      | .lit (.int k a), .lit (.int _ b) => some (.lit (.int k (if b > a then b else a)), none)
      | _, _ => none
    | _ => none
  | .slice t x lo hi none =>
    match P.underlying t, aval sl x with
    | some (.slice e), .sl sz es _ =>
      if cellsN P e = some sz then
        match lo.map (aval sl), hi.map (aval sl) with
        | none, some (.lit (.int _ h)) => some (.sl sz (es.take h.toNat) none, some (0 ≤ h ∧ h ≤ es.length))
        | some (.lit (.int _ l)), none => some (.sl sz (es.drop l.toNat) none, some (0 ≤ l ∧ l ≤ es.length))
        | some (.lit (.int _ l)), some (.lit (.int _ h)) => some (.sl sz ((es.take h.toNat).drop l.toNat) none, some (0 ≤ l ∧ l ≤ h ∧ h ≤ es.length))
        | _, _ => none
      else none
    | some .string, .lit (.string s) =>
      match lo.map (aval sl), hi.map (aval sl) with
      | none, some (.lit (.int _ h)) => some (.lit (.string ⟨(s.data.toList.take h.toNat).toArray⟩), some (0 ≤ h ∧ h ≤ s.data.toList.length))
      | some (.lit (.int _ l)), none => some (.lit (.string ⟨(s.data.toList.drop l.toNat).toArray⟩), some (0 ≤ l ∧ l ≤ s.data.toList.length))
      | some (.lit (.int _ l)), some (.lit (.int _ h)) => some (.lit (.string ⟨((s.data.toList.take h.toNat).drop l.toNat).toArray⟩), some (0 ≤ l ∧ l ≤ h ∧ h ≤ s.data.toList.length))
      | _, _ => none
    | _, _ => none
  | .build t parts =>
    match (P.info? t).bind (·.zero), placesD P t sl parts.toList with
    | some z, some l => if buildOk P t && z.cells.all (·.oneCell') then (fillD (z.cells.toList.map .lit) l).map fun cs => (.ag cs, none) else none
    | _, _ => none
  | _ => none
end Go.Proofs.Ytfaojkajlpojlaa.Abs
