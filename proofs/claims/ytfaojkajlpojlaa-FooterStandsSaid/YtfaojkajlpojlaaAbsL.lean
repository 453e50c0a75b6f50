/- From the words of the walks to the words of a row: a law that answers true. -/
import Derived.Test.YtfaojkajlpojlaaAbsK
namespace Go.Proofs.Ytfaojkajlpojlaa.Abs
open Go Go.RowKit

variable {P : Program}

def G0 (W : World) : Gh := { w0 := W, im := fun b o => W.cell? ⟨b, o, none⟩, bl := fun _ => none, th := fun _ _ => none, own := fun _ => none, nx := 0 }
def S0 : Store := ⟨fun _ => none, fun _ => none⟩
theorem Sim0 (W : World) : Sim S0 (G0 W) W where
  below := Below.refl _ _
  im := fun b o v h => h
  obj := fun k o h => by cases h
  tok := fun t n sz h => by cases h
  fresh := fun k _ => ⟨rfl, rfl, rfl, fun _ => rfl⟩
  owned := fun b _ => rfl
theorem calls_bool {f : FuncId} {args : List D} {b : Bool} {W : World} {vs : List Value} (h : ACalls P f args S0 (Ret (bo b) S0)) (hr : RepL (G0 W) args vs) :
    Calls P f vs.toArray W fun e w' => e = .returned (.bool b) ∧ Below W.heap.size W w' := by
  refine (h (G0 W) W vs.toArray (Sim0 W) (by simpa using hr)).mono ?_
  rintro e w' ⟨v, r, S', G', rfl, hx, hs, hv, rfl, rfl⟩
  simp only [Rep] at hv
  subst hv
  refine ⟨rfl, ?_⟩
  have := hs.below
  rw [hx.w0] at this
  exact this
theorem rep_str (G : Gh) (a : ByteArray) : Rep G (str a.data.toList) (.string a) := by simp [Rep]
theorem repL_cons {G : Gh} {d : D} {ds : List D} {v : Value} {vs : List Value} (h : Rep G d v) (k : RepL G ds vs) : RepL G (d :: ds) (v :: vs) := by simp only [RepL]; exact ⟨v, vs, rfl, h, k⟩
theorem repL_nil {G : Gh} : RepL G [] [] := by simp only [RepL]
theorem rep_lit {G : Gh} {v : Value} : Rep G (.lit v) v := by simp only [Rep]
end Go.Proofs.Ytfaojkajlpojlaa.Abs
