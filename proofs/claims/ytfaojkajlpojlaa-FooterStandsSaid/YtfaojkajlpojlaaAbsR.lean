/- Nothing and empty rows; what the runtime compares. -/
import Derived.Test.YtfaojkajlpojlaaAbsQ
import Derived.Lib.SliceRun
namespace Go.Proofs.Ytfaojkajlpojlaa.Abs
open Go Go.RowKit

variable {P : Program} {S : Store} {G : Gh} {w : World} {Q : Exit → List D → Store → Prop} {sl : List D}

/-- Is it nothing? If so, it holds nothing; if it holds nothing, either may be. -/
theorem AOps_eqNil {ops : Array Oper} {i : Nat} {l : List Nat} {o : Oper} {t e sz ty : Nat} {x y : Operand} {es : List (List D)} {tl : Option Nat} (ho : ops[i]? = some o) (hw : awanted ops sl o = some true) (hop : o.op = .binOp .eql t x y ty)
    (ht : P.underlying t = some (.slice e)) (hx : aval sl x = .sl sz es tl) (hy : aval sl y = .lit (.slice none 0 0)) (h : ∀ b, (b = true → es = []) → AOps P ops Q l (aput sl o.dst (bo b)) S) : AOps P ops Q (i :: l) sl S := by
  refine AOps_one ho hw fun G w a hs hr hd => ?_
  have h1 := aval_rep hr x
  rw [hx] at h1
  simp only [Rep] at h1
  obtain ⟨A, c, h2, h3, _, h4⟩ := h1
  have h5 := aval_rep hr y
  rw [hy] at h5
  simp only [Rep] at h5
  refine ⟨_, w, G, bo A.isNone, S, ?_, Ext.refl G, hs, .inr ⟨.bool A.isNone, rfl, by simp [Rep]⟩, h _ ?_⟩
  · simp only [execOp, hop]
    refine wrap_v ?_
    rw [h2, h5]
    have e1 : (eqGuard .eql t x y (.slice A es.length c) (.slice none 0 0)).run P w = .ok () w := by
      simp [eqGuard]
    rw [Sem.run_bind, e1, Result.andThen_ok]
    exact Lib.run_eql_slice_nil w t e A es.length c 0 0 ht
  · intro hb
    rcases h4 with h4 | ⟨a', vs, rfl, _⟩
    · exact h4
    · cases hb

/-- The comparison of two texts. -/
def cmpS (a b : List UInt8) : Int := Lib.compareBytes a b
theorem AOps_cmp {ops : Array Oper} {i : Nat} {l : List Nat} {o : Oper} {c : Call} {f : FuncId} {x y : Operand} (a b : List UInt8) (ho : ops[i]? = some o) (hop : o.op = .call c) (hcal : c.callee = .value (.func f)) (hargs : c.args = #[x, y]) (hw : awanted ops sl o = some true) {fn : Func} (hfn : P.funcs[f]? = some fn)
    (hname : (fn.name == "runtime.NumGoroutine") = false) (hbody : fn.body = none) (hnext : Extern.findNext fn = none) (hfind : Extern.find fn = some Extern.BytealgCompare.compare) (hx : aval sl x = str a) (hy : aval sl y = str b)
    (h : AOps P ops Q l (aput sl o.dst (i64 (cmpS a b))) S) : AOps P ops Q (i :: l) sl S := by
  refine AOps_one ho hw fun G w act hs hr hd => ?_
  have h1 := aval_rep hr x
  rw [hx] at h1
  simp only [Rep] at h1
  have h2 := aval_rep hr y
  rw [hy] at h2
  simp only [Rep] at h2
  refine ⟨.value (.int .i64 (cmpS a b)), w, G, i64 (cmpS a b), S, ?_, Ext.refl G, hs, .inr ⟨_, rfl, by simp [Rep]⟩, h⟩
  have e : (Extern.BytealgCompare.compare #[.string ⟨a.toArray⟩, .string ⟨b.toArray⟩]).run P w = .ok (.int .i64 (cmpS a b)) w := Lib.run_compareString _ _ w
  have ha : (#[x, y] : Array Operand).map act.eval = #[.string ⟨a.toArray⟩, .string ⟨b.toArray⟩] := by simp [h1, h2]
  have hf : act.eval (.func f) = .func (.func f) #[] #[] := rfl
  simp only [execOp, hop, resolve, hcal, hargs, ha, hf, Deferred.ofValue, Sem.run_bind, Sem.run_pure, Result.andThen_ok, invoke, callFunc, run_program, hfn]
  simp [hname, hbody, hnext, hfind, e]
theorem getD_map {α β : Type} (f : α → β) (o : Option α) (d : α) : (o.map f).getD (f d) = f (o.getD d) := by cases o <;> rfl
end Go.Proofs.Ytfaojkajlpojlaa.Abs
