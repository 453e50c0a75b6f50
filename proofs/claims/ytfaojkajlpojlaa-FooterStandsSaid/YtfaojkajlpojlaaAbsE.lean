/- Soundness of 'aop', and runs of pure operations. -/
import Derived.Test.YtfaojkajlpojlaaAbsD
namespace Go.Proofs.Ytfaojkajlpojlaa.Abs
open Go Go.RowKit

variable {P : Program}

theorem elemT_underlying {t e : TypeId} (he : elemT P t = some e) : P.underlying t = some (.slice e) := by
  unfold elemT at he
  split at he
  · rename_i x hx; cases he; exact hx
  · cases he

theorem sl_val {G : Gh} {sz : Nat} {es : List (List D)} {tl : Option Nat} {v : Value} (h : Rep G (.sl sz es tl) v) : ∃ A c, v = .slice A es.length c ∧ es.length ≤ c := by
  simp only [Rep] at h
  obtain ⟨A, c, h1, h2, _⟩ := h
  exact ⟨A, c, h1, h2⟩

theorem bound_run {k : IntKind} {n : Int} {y : Nat} {code : BoundsCode} (h0 : 0 ≤ n) (h1 : n ≤ y) (w : World) : (Instr.sliceBound (.int k n) y code).run P w = .ok n.toNat w := by
  simp only [Instr.sliceBound, asIntOf, Sem.run_bind, Sem.run_pure, Result.andThen_ok]
  rw [if_pos ⟨h0, h1⟩]
  rfl

theorem bsize (s : ByteArray) : s.data.toList.length = s.size := by simp
theorem string_get (s : ByteArray) (i : Nat) (h : i < s.size) : s[i]? = some (s.data.toList.getD i 0) := by
  rw [getElem?_pos s i h]
  have h2 : i < s.data.toList.length := by rw [bsize]; exact h
  rw [getD_eq, List.getElem?_eq_getElem h2]
  rfl
theorem bextract (s : ByteArray) (l h : Nat) : s.extract l h = ⟨((s.data.toList.take h).drop l).toArray⟩ := by
  apply ByteArray.ext
  apply Array.ext'
  rw [ByteArray.data_extract]
  simp [List.extract_eq_take_drop, List.drop_take]

set_option maxHeartbeats 1000000 in
theorem aop_sound {o : Oper} {sl : List D} {d : D} {φ : Option Prop} (h : aop P sl o.op = some (d, φ)) (hφ : CondOk φ) : PureOp P o sl d := by
  intro G a w hr hw
  obtain ⟨dst, op, ty, pos, after, guard⟩ := o
  simp only at h
  cases op <;> simp only [aop, reduceCtorEq] at h
  case move x => simp only [Option.some.injEq, Prod.mk.injEq] at h; obtain ⟨rfl, _⟩ := h; exact ⟨_, by simp [execOp], aval_rep hr x⟩
  case assign x => simp only [Option.some.injEq, Prod.mk.injEq] at h; obtain ⟨rfl, _⟩ := h; exact ⟨_, by simp [execOp], aval_rep hr x⟩
  case pick c x y =>
    split at h
    · rename_i hc
      simp only [Option.some.injEq, Prod.mk.injEq] at h; obtain ⟨rfl, _⟩ := h
      exact ⟨a.eval x, by simp [execOp, lit_of hr hc, asBool], aval_rep hr x⟩
    · rename_i hc
      simp only [Option.some.injEq, Prod.mk.injEq] at h; obtain ⟨rfl, _⟩ := h
      exact ⟨a.eval y, by simp [execOp, lit_of hr hc, asBool], aval_rep hr y⟩
    · cases h
  case binOp op t x y t2 =>
    split at h
    · rename_i u v hx hy
      have hru : Rep G (.lit u) u := by simp only [Rep]
      have hrv : Rep G (.lit v) v := by simp only [Rep]
      split at h
      · rename_i r ψ h1
        simp only [Option.some.injEq, Prod.mk.injEq] at h
        obtain ⟨rfl, rfl⟩ := h
        refine ⟨r, ?_, by simp [Rep]⟩
        simp only [execOp, lit_of hr hx, lit_of hr hy]
        exact wrap_v (aBin_sound h1 hφ t x y w)
      · have atom : ∀ b, eqT P 1 t (.lit u) (.lit v) = some b → (∃ a c, u = .bool a ∧ v = .bool c ∧ P.underlying t = some .bool) ∨ (aBin .eql u v ≠ none ∧ aBin .neq u v ≠ none) := by
          intro b hb
          simp only [eqT] at hb
          split at hb
          · split at hb
            · rename_i k1 a1 k2 b1 e1 e2
              injection e1 with e1; injection e2 with e2
              subst e1 e2
              split at hb
              · rename_i hk; subst hk; right; simp [aBin]
              · cases hb
            · cases hb
          · rename_i hu
            split at hb
            · rename_i a1 b1 e1 e2
              injection e1 with e1; injection e2 with e2
              subst e1 e2
              left; exact ⟨_, _, rfl, rfl, hu⟩
            · cases hb
          · split at hb
            · rename_i a1 b1 e1 e2
              injection e1 with e1; injection e2 with e2
              subst e1 e2
              right; simp [aBin]
            · cases hb
          · cases hb
          · cases hb
        rename_i hnone
        split at h
        · simp only [Option.map_eq_some_iff, Prod.mk.injEq] at h
          obtain ⟨b, h1, rfl, _⟩ := h
          rcases atom b h1 with ⟨p, q, rfl, rfl, hu⟩ | ⟨h2, _⟩
          · refine ⟨.bool b, ?_, by simp [Rep]⟩
            have := eqT_sound (P := P) (G := G) 1 t _ _ b h1 _ _ hru hrv 10000 (by omega) w
            simp only [execOp, lit_of hr hx, lit_of hr hy]
            refine wrap_v ?_
            simp [eqGuard, binOp, Op.equal, Op.maxDepth, this]
          · exact absurd hnone h2
        · simp only [Option.map_eq_some_iff, Prod.mk.injEq] at h
          obtain ⟨b, h1, rfl, _⟩ := h
          rcases atom b h1 with ⟨p, q, rfl, rfl, hu⟩ | ⟨_, h2⟩
          · refine ⟨.bool !b, ?_, by simp [Rep]⟩
            have := eqT_sound (P := P) (G := G) 1 t _ _ b h1 _ _ hru hrv 10000 (by omega) w
            simp only [execOp, lit_of hr hx, lit_of hr hy]
            refine wrap_v ?_
            simp [eqGuard, binOp, Op.equal, Op.maxDepth, this]
          · exact absurd hnone h2
        · cases h
    · rename_i xs ys hx hy
      have hrx := aval_rep hr x
      have hry := aval_rep hr y
      rw [hx] at hrx
      rw [hy] at hry
      have hrx2 := hrx
      have hry2 := hry
      simp only [Rep] at hrx2 hry2
      obtain ⟨us, ex, _⟩ := hrx2
      obtain ⟨ws, ey, _⟩ := hry2
      rw [ex] at hrx
      rw [ey] at hry
      split at h
      · split at h
        · cases h
        · rename_i hg
          simp only [Option.map_eq_some_iff, Prod.mk.injEq] at h
          obtain ⟨b, h1, rfl, _⟩ := h
          have := eqT_sound (P := P) (G := G) 9 t _ _ b h1 _ _ hrx hry 10000 (by omega) w
          refine ⟨.bool b, ?_, by simp [Rep]⟩
          simp only [execOp, ex, ey]
          refine wrap_v ?_
          rw [Sem.run_bind, run_eqGuard_agg _ _ _ _ _ _ _ (by simpa using hg), Result.andThen_ok, run_eql_struct, this]
          rfl
      · split at h
        · cases h
        · rename_i hg
          simp only [Option.map_eq_some_iff, Prod.mk.injEq] at h
          obtain ⟨b, h1, rfl, _⟩ := h
          have := eqT_sound (P := P) (G := G) 9 t _ _ b h1 _ _ hrx hry 10000 (by omega) w
          refine ⟨.bool !b, ?_, by simp [Rep]⟩
          simp only [execOp, ex, ey]
          refine wrap_v ?_
          rw [Sem.run_bind, run_eqGuard_agg _ _ _ _ _ _ _ (by simpa using hg), Result.andThen_ok, run_neq_struct, this]
          rfl
      · cases h
    · cases h
  case unOp op t x =>
    split at h
    · rename_i u hx
      simp only [Option.map_eq_some_iff, Prod.mk.injEq] at h
      obtain ⟨r, h1, rfl, rfl⟩ := h
      refine ⟨r, ?_, by simp [Rep]⟩
      simp only [execOp, lit_of hr hx]
      exact wrap_v (aUn_sound h1 w)
    · cases h
  case convert s t x =>
    split at h
    · rename_i ds k k' n h1 h2 hx
      simp only [Option.some.injEq, Prod.mk.injEq] at h; obtain ⟨rfl, _⟩ := h
      refine ⟨.int k (k.wrap n), ?_, by simp only [Rep]⟩
      simp only [execOp, lit_of hr hx]
      refine wrap_v ?_
      simp only [convert, Sem.run_bind, run_underlying h1, run_underlying h2, Result.andThen_ok]
      simp [Conv.intToInt]
    · rename_i ds s' h1 h2 hx
      simp only [Option.some.injEq, Prod.mk.injEq] at h; obtain ⟨rfl, _⟩ := h
      refine ⟨.string s', ?_, by simp only [Rep]⟩
      simp only [execOp, lit_of hr hx]
      refine wrap_v ?_
      simp only [convert, Sem.run_bind, run_underlying h1, run_underlying h2, Result.andThen_ok]
      simp
    · cases h
  case extract t i =>
    split at h
    · rename_i ds ht
      simp only [Option.map_eq_some_iff, Prod.mk.injEq] at h
      obtain ⟨d', h1, rfl, _⟩ := h
      have := aval_rep hr t
      rw [ht] at this
      simp only [Rep] at this
      obtain ⟨vs, h2, h3⟩ := this
      obtain ⟨v, h4, h5⟩ := h3.get _ _ h1
      refine ⟨v, ?_, h5⟩
      simp only [execOp, h2]
      refine wrap_v ?_
      simp [Instr.extract, h4]
    · cases h
  case makeFunc f first captured =>
    simp only [Option.some.injEq, Prod.mk.injEq] at h; obtain ⟨rfl, _⟩ := h
    refine ⟨.func f (first.map a.eval) (captured.map a.eval), by simp [execOp, Instr.makeFunc], ?_⟩
    simp only [Rep]
    exact ⟨first.toList.map a.eval, captured.toList.map a.eval, by rw [← List.map_toArray, ← List.map_toArray], avals_rep hr _, avals_rep hr _⟩
  case field t x i =>
    split at h
    · rename_i f cs hf hx
      simp only [Option.map_eq_some_iff, Prod.mk.injEq] at h
      obtain ⟨d', h1, rfl, _⟩ := h
      have := aval_rep hr x
      rw [hx] at this
      simp only [Rep] at this
      obtain ⟨vs, h2, h3⟩ := this
      obtain ⟨v, h4, h5⟩ := part_rep h1 h3.1 h3.2 w
      refine ⟨v, ?_, h5⟩
      simp only [execOp, h2]
      refine wrap_v ?_
      unfold fieldOf at hf
      split at hf
      · rename_i fs hu
        simp only [Instr.field, Sem.run_bind, run_underlying hu, Result.andThen_ok, hf, asAgg, Sem.run_pure, h4]
      · cases hf
    · cases h
  case nilCheck x =>
    split at h
    · rename_i cs hx
      simp only [Option.some.injEq, Prod.mk.injEq] at h; obtain ⟨rfl, _⟩ := h
      have h1 := aval_rep hr x
      rw [hx] at h1
      have h2 := h1
      simp only [Rep] at h2
      obtain ⟨ad, vs, h3, _⟩ := h2
      exact ⟨a.eval x, by simp [execOp, h3], h1⟩
    · rename_i b o hx
      simp only [Option.some.injEq, Prod.mk.injEq] at h; obtain ⟨rfl, _⟩ := h
      have h1 := aval_rep hr x
      rw [hx] at h1
      have h2 := h1
      simp only [Rep] at h2
      obtain ⟨k, h3, _⟩ := h2
      exact ⟨a.eval x, by simp [execOp, h3], h1⟩
    · rename_i f fs cs hx
      simp only [Option.some.injEq, Prod.mk.injEq] at h; obtain ⟨rfl, _⟩ := h
      have h1 := aval_rep hr x
      rw [hx] at h1
      have h2 := h1
      simp only [Rep] at h2
      obtain ⟨vs, ws, h3, _⟩ := h2
      exact ⟨a.eval x, by simp [execOp, h3], h1⟩
    · cases h
  case fieldAddr t x i =>
    split at h
    · rename_i f cs hf hx
      simp only [Option.bind_eq_some_iff] at h
      obtain ⟨n, hn, h⟩ := h
      split at h
      · cases h
      · rename_i hz
        simp only [Option.some.injEq, Prod.mk.injEq] at h; obtain ⟨rfl, _⟩ := h
        have h1 := aval_rep hr x
        rw [hx] at h1
        obtain ⟨r, h2, h3⟩ := fieldPt_sound (P := P) (w := w) hf hn hz h1
        exact ⟨r, by simp only [execOp]; exact wrap_v h2, h3⟩
    · rename_i f b o' hf hx
      simp only [Option.bind_eq_some_iff] at h
      obtain ⟨n, hn, h⟩ := h
      split at h
      · cases h
      · rename_i hz
        simp only [Option.some.injEq, Prod.mk.injEq] at h; obtain ⟨rfl, _⟩ := h
        have h1 := aval_rep hr x
        rw [hx] at h1
        obtain ⟨r, h2, h3⟩ := fieldOb_sound (P := P) (w := w) hf hn hz h1
        exact ⟨r, by simp only [execOp]; exact wrap_v h2, h3⟩
    · cases h
  case indexAddr t x i =>
    split at h
    · rename_i e sz es tl k n he hx hi
      split at h
      · rename_i hs
        simp only [Option.some.injEq, Prod.mk.injEq] at h; obtain ⟨rfl, rfl⟩ := h
        have h1 := aval_rep hr x
        rw [hx] at h1
        obtain ⟨r, h2, h3⟩ := index_sound (P := P) (w := w) (k := k) he hs h1 hφ.1 hφ.2
        exact ⟨r, by simp only [execOp, lit_of hr hi]; exact wrap_v h2, h3⟩
      · cases h
    · rename_i e b o' m c k n he hx hi
      simp only [Option.map_eq_some_iff, Prod.mk.injEq] at h
      obtain ⟨sz, hs, rfl, rfl⟩ := h
      have h1 := aval_rep hr x
      rw [hx] at h1
      simp only [Rep] at h1
      obtain ⟨blk, h2, h3⟩ := h1
      obtain ⟨h4, h5⟩ := hφ
      refine ⟨.pointer (some ⟨blk, o' + n.toNat * sz, none⟩), ?_, by simp only [Rep]; exact ⟨blk, rfl, h3⟩⟩
      simp only [execOp, lit_of hr hi, h2]
      refine wrap_v ?_
      simp only [Instr.indexAt, asIntOf, Sem.run_bind, Sem.run_pure, Result.andThen_ok, run_underlying (elemT_underlying he)]
      rw [if_pos ⟨h4, h5⟩]
      simp only [Sem.run_bind, run_sizeOf hs, Result.andThen_ok, Sem.run_pure]
      rw [addr_add _ _ rfl]
    · cases h
  case index t x i =>
    split at h
    · rename_i s k n hu hx hi
      simp only [Option.some.injEq, Prod.mk.injEq] at h; obtain ⟨rfl, rfl⟩ := h
      obtain ⟨h0, h1⟩ := hφ
      rw [bsize] at h1
      refine ⟨.int .u8 (s.data.toList.getD n.toNat 0).toNat, ?_, by simp only [Rep]⟩
      simp only [execOp, lit_of hr hi, lit_of hr hx]
      refine wrap_v ?_
      simp only [Instr.index, asIntOf, Sem.run_bind, Sem.run_pure, Result.andThen_ok, run_underlying hu]
      have e : (if 0 ≤ n then s[n.toNat]? else none) = some (s.data.toList.getD n.toNat 0) := by rw [if_pos h0, string_get s n.toNat (by omega)]
      rw [e]
      rfl
    · rename_i len e cs k n hu hx hi
      simp only [Option.bind_eq_some_iff] at h
      obtain ⟨sz, hsz, h⟩ := h
      have h1 := aval_rep hr x
      rw [hx] at h1
      simp only [Rep] at h1
      obtain ⟨vs, h2, h3⟩ := h1
      split at h
      · rename_i hag
        simp only [Option.some.injEq, Prod.mk.injEq] at h; obtain ⟨rfl, rfl⟩ := h
        obtain ⟨v, h4, h5⟩ := part_rep (P := P) (t := e) (off := n.toNat * sz) (d := .ag ((cs.drop (n.toNat * sz)).take sz)) (by simp [partD, hag, hsz]) h3.1 h3.2 w
        refine ⟨v, ?_, h5⟩
        simp only [execOp, lit_of hr hi, h2]
        refine wrap_v ?_
        simp only [Instr.index, asIntOf, Sem.run_bind, Sem.run_pure, Result.andThen_ok, run_underlying hu]
        rw [if_pos (show 0 ≤ n ∧ n < (len : Int) from hφ)]
        simp only [Sem.run_bind, run_sizeOf hsz, Result.andThen_ok, h4]
      · rename_i hag
        simp only [Option.some.injEq, Prod.mk.injEq] at h; obtain ⟨rfl, rfl⟩ := h
        obtain ⟨h0, h1, h6⟩ := hφ
        obtain ⟨v, h4, h5⟩ := part_rep (P := P) (t := e) (off := n.toNat * sz) (d := cs.getD (n.toNat * sz) .any) (by simp [partD, hag, getD_eq, List.getElem?_eq_getElem h6]) h3.1 h3.2 w
        refine ⟨v, ?_, h5⟩
        simp only [execOp, lit_of hr hi, h2]
        refine wrap_v ?_
        simp only [Instr.index, asIntOf, Sem.run_bind, Sem.run_pure, Result.andThen_ok, run_underlying hu]
        rw [if_pos ⟨h0, h1⟩]
        simp only [Sem.run_bind, run_sizeOf hsz, Result.andThen_ok, h4]
      · cases h
    · cases h
  case load t x =>
    split at h
    · rename_i cs hx hag
      split at h
      · rename_i hn
        simp only [Option.some.injEq, Prod.mk.injEq] at h; obtain ⟨rfl, _⟩ := h
        have h1 := aval_rep hr x
        rw [hx] at h1
        obtain ⟨r, h2, h3⟩ := (loadPt_sound (P := P) hw h1).1 hag hn
        exact ⟨r, by simp only [execOp]; exact wrap_v h2, h3⟩
      · cases h
    · rename_i d0 cs hx hag
      simp only [Option.some.injEq, Prod.mk.injEq] at h; obtain ⟨rfl, _⟩ := h
      have h1 := aval_rep hr x
      rw [hx] at h1
      obtain ⟨r, h2, h3⟩ := (loadPt_sound (P := P) hw h1).2 hag (by simp)
      exact ⟨r, by simp only [execOp]; exact wrap_v h2, by simpa using h3⟩
    · cases h
  case build t parts =>
    split at h
    · rename_i z l hz hl
      split at h
      · rename_i hok
        simp only [Option.map_eq_some_iff, Prod.mk.injEq] at h
        obtain ⟨cs, h1, rfl, _⟩ := h
        rw [Bool.and_eq_true] at hok
        obtain ⟨v, h2, h3⟩ := build_sound (P := P) hr hz hl h1 hok.1 hok.2 w
        exact ⟨v, by simp only [execOp]; exact wrap_v h2, h3⟩
      · cases h
    · cases h
  case slice t x lo hi mx =>
    cases mx with
    | some m => simp [aop] at h
    | none =>
    simp only [aop] at h
    split at h
    · rename_i e sz es tl hu hx
      split at h
      · rename_i hsz
        have h1 := aval_rep hr x
        rw [hx] at h1
        obtain ⟨A, c, h2, h3⟩ := sl_val h1
        rw [h2] at h1
        have h2' := h2
        cases lo with
        | none =>
          cases hi with
          | none => simp at h
          | some hv =>
            simp only [Option.map_none, Option.map_some] at h
            cases hh : aval sl hv <;> simp only [hh, reduceCtorEq] at h
            rename_i lv
            cases lv <;> simp only [reduceCtorEq, Option.some.injEq, Prod.mk.injEq] at h
            rename_i k n
            obtain ⟨rfl, rfl⟩ := h
            obtain ⟨h4, h5⟩ := hφ
            refine ⟨_, ?_, by simpa using cut_rep (l := 0) (h := n.toNat) h1 (by omega) (by omega)⟩
            simp only [execOp, h2', Option.map_some, Option.map_none, lit_of hr hh]
            refine wrap_v ?_
            have hb := bound_run (P := P) (k := k) (y := c) (code := .sliceAcap) h4 (by omega) w
            simp [Instr.sliceAt, Sem.run_bind, run_underlying hu, Instr.slice, Instr.sliceBounds, hb, run_sizeOf hsz]
        | some lv =>
          cases hi with
          | none =>
            simp only [Option.map_none, Option.map_some] at h
            cases hh : aval sl lv <;> simp only [hh, reduceCtorEq] at h
            rename_i lv'
            cases lv' <;> simp only [reduceCtorEq, Option.some.injEq, Prod.mk.injEq] at h
            rename_i k n
            obtain ⟨rfl, rfl⟩ := h
            obtain ⟨h4, h5⟩ := hφ
            have := cut_rep (l := n.toNat) (h := es.length) h1 (by omega) (by omega)
            rw [List.take_length] at this
            refine ⟨_, ?_, this⟩
            simp only [execOp, h2', Option.map_some, Option.map_none, lit_of hr hh]
            refine wrap_v ?_
            have hb := bound_run (P := P) (k := k) (y := es.length) (code := .sliceB) h4 h5 w
            simp [Instr.sliceAt, Sem.run_bind, run_underlying hu, Instr.slice, Instr.sliceBounds, hb, run_sizeOf hsz]
          | some hv =>
            simp only [Option.map_some] at h
            cases hh : aval sl lv <;> simp only [hh, reduceCtorEq] at h
            rename_i lv'
            cases lv' <;> try simp only [reduceCtorEq] at h
            rename_i k n
            cases hh2 : aval sl hv <;> simp only [hh2, reduceCtorEq] at h
            rename_i hv'
            cases hv' <;> simp only [reduceCtorEq, Option.some.injEq, Prod.mk.injEq] at h
            rename_i k2 m
            obtain ⟨rfl, rfl⟩ := h
            obtain ⟨h4, h5, h6⟩ := hφ
            refine ⟨_, ?_, cut_rep (l := n.toNat) (h := m.toNat) h1 (by omega) (by omega)⟩
            simp only [execOp, h2', Option.map_some, Option.map_none, lit_of hr hh, lit_of hr hh2]
            refine wrap_v ?_
            have hb := bound_run (P := P) (k := k2) (y := c) (code := .sliceAcap) (show 0 ≤ m by omega) (by omega) w
            have hb2 := bound_run (P := P) (k := k) (y := m.toNat) (code := .sliceB) h4 (by omega) w
            simp [Instr.sliceAt, Sem.run_bind, run_underlying hu, Instr.slice, Instr.sliceBounds, hb, hb2, run_sizeOf hsz]
      · cases h
    · rename_i s hu hx
      cases lo with
      | none =>
        cases hi with
        | none => simp at h
        | some hv =>
          simp only [Option.map_none, Option.map_some] at h
          cases hh : aval sl hv <;> simp only [hh, reduceCtorEq] at h
          rename_i lv
          cases lv <;> simp only [reduceCtorEq, Option.some.injEq, Prod.mk.injEq] at h
          rename_i k n
          obtain ⟨rfl, rfl⟩ := h
          obtain ⟨h4, h5⟩ := hφ
          rw [bsize] at h5
          refine ⟨.string (s.extract 0 n.toNat), ?_, by simp only [Rep]; rw [bextract]; simp⟩
          simp only [execOp, lit_of hr hx, Option.map_some, Option.map_none, lit_of hr hh]
          refine wrap_v ?_
          have hb := bound_run (P := P) (k := k) (y := s.size) (code := .sliceAlen) h4 h5 w
          simp [Instr.sliceAt, Sem.run_bind, run_underlying hu, Instr.slice, Instr.sliceBounds, hb]
      | some lv =>
        cases hi with
        | none =>
          simp only [Option.map_none, Option.map_some] at h
          cases hh : aval sl lv <;> simp only [hh, reduceCtorEq] at h
          rename_i lv'
          cases lv' <;> simp only [reduceCtorEq, Option.some.injEq, Prod.mk.injEq] at h
          rename_i k n
          obtain ⟨rfl, rfl⟩ := h
          obtain ⟨h4, h5⟩ := hφ
          rw [bsize] at h5
          refine ⟨.string (s.extract n.toNat s.size), ?_, by simp only [Rep]; rw [bextract, ← bsize, List.take_length]⟩
          simp only [execOp, lit_of hr hx, Option.map_some, Option.map_none, lit_of hr hh]
          refine wrap_v ?_
          have hb := bound_run (P := P) (k := k) (y := s.size) (code := .sliceB) h4 h5 w
          simp [Instr.sliceAt, Sem.run_bind, run_underlying hu, Instr.slice, Instr.sliceBounds, hb]
        | some hv =>
          simp only [Option.map_some] at h
          cases hh : aval sl lv <;> simp only [hh, reduceCtorEq] at h
          rename_i lv'
          cases lv' <;> try simp only [reduceCtorEq] at h
          rename_i k n
          cases hh2 : aval sl hv <;> simp only [hh2, reduceCtorEq] at h
          rename_i hv'
          cases hv' <;> simp only [reduceCtorEq, Option.some.injEq, Prod.mk.injEq] at h
          rename_i k2 m
          obtain ⟨rfl, rfl⟩ := h
          obtain ⟨h4, h5, h6⟩ := hφ
          rw [bsize] at h6
          refine ⟨.string (s.extract n.toNat m.toNat), ?_, by simp only [Rep]; rw [bextract]⟩
          simp only [execOp, lit_of hr hx, Option.map_some, Option.map_none, lit_of hr hh, lit_of hr hh2]
          refine wrap_v ?_
          have hb := bound_run (P := P) (k := k2) (y := s.size) (code := .sliceAlen) (show 0 ≤ m by omega) h6 w
          have hb2 := bound_run (P := P) (k := k) (y := m.toNat) (code := .sliceB) h4 (by omega) w
          simp [Instr.sliceAt, Sem.run_bind, run_underlying hu, Instr.slice, Instr.sliceBounds, hb, hb2]
    · cases h
  case call c =>
    obtain ⟨callee, args, argTypes⟩ := c
    cases callee with
    | value f => simp [aop] at h
    | invoke r m => simp [aop] at h
    | builtin b =>
      cases b <;> simp only [aop, reduceCtorEq] at h
      case len =>
        simp only [execOp, resolve, Sem.run_bind, Sem.run_pure, Result.andThen_ok, invoke, builtin]
        have arg0 : ∀ x, args[0]? = some x → (args.map a.eval)[0]? = some (a.eval x) := fun x hx => by simp [hx]
        split at h
        · rename_i e x ht hx
          obtain ⟨t, ht1, ht2⟩ := Option.bind_eq_some_iff.1 ht
          split at h
          · rename_i sz es tl hv
            simp only [Option.some.injEq, Prod.mk.injEq] at h; obtain ⟨rfl, _⟩ := h
            have h1 := aval_rep hr x
            rw [hv] at h1
            obtain ⟨A, c, h2, _⟩ := sl_val h1
            refine ⟨.int .i64 es.length, ?_, by simp only [Rep]⟩
            simp [Builtin.len_, ht1, arg0 x hx, h2, run_underlying ht2, goInt]
          · rename_i b o n c hv
            simp only [Option.some.injEq, Prod.mk.injEq] at h; obtain ⟨rfl, _⟩ := h
            have h1 := aval_rep hr x
            rw [hv] at h1
            simp only [Rep] at h1
            obtain ⟨k, h2, _⟩ := h1
            refine ⟨.int .i64 n, ?_, by simp only [Rep]⟩
            simp [Builtin.len_, ht1, arg0 x hx, h2, run_underlying ht2, goInt]
          · rename_i A n c hv
            simp only [Option.some.injEq, Prod.mk.injEq] at h; obtain ⟨rfl, _⟩ := h
            refine ⟨.int .i64 n, ?_, by simp only [Rep]⟩
            simp [Builtin.len_, ht1, arg0 x hx, lit_of hr hv, run_underlying ht2, goInt]
          · cases h
        · rename_i x ht hx
          obtain ⟨t, ht1, ht2⟩ := Option.bind_eq_some_iff.1 ht
          split at h
          · rename_i s hv
            simp only [Option.some.injEq, Prod.mk.injEq] at h; obtain ⟨rfl, _⟩ := h
            rw [bsize]
            refine ⟨.int .i64 s.size, ?_, by simp only [Rep]⟩
            simp [Builtin.len_, ht1, arg0 x hx, lit_of hr hv, run_underlying ht2, goInt]
          · cases h
        · rename_i n e x ht hx
          obtain ⟨t, ht1, ht2⟩ := Option.bind_eq_some_iff.1 ht
          simp only [Option.some.injEq, Prod.mk.injEq] at h; obtain ⟨rfl, _⟩ := h
          refine ⟨.int .i64 n, ?_, by simp only [Rep]⟩
          simp [Builtin.len_, ht1, arg0 x hx, run_underlying ht2, goInt]
        · cases h
      case min =>
        split at h
        · rename_i x y hl
          split at h
          · rename_i k u k' v hx hy
            simp only [Option.some.injEq, Prod.mk.injEq] at h; obtain ⟨rfl, _⟩ := h
            refine ⟨.int k (if v < u then v else u), ?_, by simp only [Rep]⟩
            simp [execOp, resolve, invoke, builtin, Builtin.min_, hl, lit_of hr hx, lit_of hr hy, Builtin.min2]
          · cases h
        · cases h
      case max =>
        split at h
        · rename_i x y hl
          split at h
          · rename_i k u k' v hx hy
            simp only [Option.some.injEq, Prod.mk.injEq] at h; obtain ⟨rfl, _⟩ := h
            refine ⟨.int k (if v > u then v else u), ?_, by simp only [Rep]⟩
            simp [execOp, resolve, invoke, builtin, Builtin.max_, hl, lit_of hr hx, lit_of hr hy, Builtin.max2]
          · cases h
        · cases h
end Go.Proofs.Ytfaojkajlpojlaa.Abs
