/- What functions of the program compute, each with the proof that it does (printed by wip/gen/all2.py). -/
import Derived.Test.YtfaojkajlpojlaaProg
import Derived.Test.YtfaojkajlpojlaaAbsY
import Derived.KernelRfl
namespace Go.Proofs.Ytfaojkajlpojlaa.Abs
open Go
set_option maxRecDepth 100000
structure Col where
  Name : (List UInt8)
  Type_ : Int
  Nullable : Bool
  deriving DecidableEq
def Col.enc (x : Col) : List D := eS x.Name ++ (eI x.Type_ ++ (eO x.Nullable))
def Col.zero : Col := ⟨[], 0, false⟩
structure Point where
  X : Int
  Y : Int
  deriving DecidableEq
def Point.enc (x : Point) : List D := eI x.X ++ (eI x.Y)
def Point.zero : Point := ⟨0, 0⟩
structure Cell where
  Null : Bool
  Int : Int
  Text : (List UInt8)
  At : Point
  deriving DecidableEq
def Cell.enc (x : Cell) : List D := eO x.Null ++ (eI x.Int ++ (eS x.Text ++ (Point.enc x.At)))
def Cell.zero : Cell := ⟨false, 0, [], Point.zero⟩
structure Stat where
  Nulls : Int
  Has : Bool
  Min : Cell
  Max : Cell
  deriving DecidableEq
def Stat.enc (x : Stat) : List D := eI x.Nulls ++ (eO x.Has ++ (Cell.enc x.Min ++ (Cell.enc x.Max)))
def Stat.zero : Stat := ⟨0, false, Cell.zero, Cell.zero⟩
structure PageInfo where
  Size : Int
  Rows : Int
  Stat : Stat
  deriving DecidableEq
def PageInfo.enc (x : PageInfo) : List D := eI x.Size ++ (eI x.Rows ++ (Stat.enc x.Stat))
def PageInfo.zero : PageInfo := ⟨0, 0, Stat.zero⟩
structure Group where
  Rows : Int
  Chunks : (List (List PageInfo))
  deriving DecidableEq
def Group.enc (x : Group) : List D := eI x.Rows ++ ((eL 1 (eL 14 PageInfo.enc)) x.Chunks)
def Group.zero : Group := ⟨0, []⟩
structure Footer where
  Cols : (List Col)
  Rows : Int
  Groups : (List Group)
  deriving DecidableEq
def Footer.enc (x : Footer) : List D := (eL 3 Col.enc) x.Cols ++ (eI x.Rows ++ ((eL 2 Group.enc) x.Groups))
def Footer.zero : Footer := ⟨[], 0, []⟩
structure Span where
  From : Int
  To : Int
  deriving DecidableEq
def Span.enc (x : Span) : List D := eI x.From ++ (eI x.To)
def Span.zero : Span := ⟨0, 0⟩
structure Cursor where
  left : (List UInt8)
  bad : Bool
  deriving DecidableEq
def Cursor.enc (x : Cursor) : List D := (eL 1 eB) x.left ++ (eO x.bad)
def Cursor.zero : Cursor := ⟨[], false⟩
def Col.wf (x : Col) : Prop := x.Name.length ≤ maxLen ∧ ((Lit.int .i64 x.Type_).wf = true ∧ (True))
def Col.bulk (x : Col) : Nat := ((x.Name.length + 1) + (1 + (1))) + 1
theorem Col.open46 : OpenT Try.prog 46 Col.enc Col.wf Col.bulk :=
  (openT_struct (T := 3) Try.underlying46 (by kernel_rfl) (openF_cons (openT_str Try.underlying9) rfl (openF_cons (openT_int Try.underlying3) rfl (openF_one (openT_bool Try.underlying4) rfl (by kernel_rfl))))).map (fun (x : (List UInt8) × _root_.Int × Bool) => (⟨x.1, x.2.1, x.2.2⟩ : Col)) (fun x => rfl) (fun x h => h) (fun x => Nat.le_refl _)
def Point.wf (x : Point) : Prop := (Lit.int .i64 x.X).wf = true ∧ ((Lit.int .i64 x.Y).wf = true)
def Point.bulk (x : Point) : Nat := (1 + (1)) + 1
theorem Point.open38 : OpenT Try.prog 38 Point.enc Point.wf Point.bulk :=
  (openT_struct (T := 2) Try.underlying38 (by kernel_rfl) (openF_cons (openT_int Try.underlying3) rfl (openF_one (openT_int Try.underlying3) rfl (by kernel_rfl)))).map (fun (x : _root_.Int × _root_.Int) => (⟨x.1, x.2⟩ : Point)) (fun x => rfl) (fun x h => h) (fun x => Nat.le_refl _)
def Cell.wf (x : Cell) : Prop := True ∧ ((Lit.int .i64 x.Int).wf = true ∧ (x.Text.length ≤ maxLen ∧ (Go.Proofs.Ytfaojkajlpojlaa.Abs.Point.wf x.At)))
def Cell.bulk (x : Cell) : Nat := (1 + (1 + ((x.Text.length + 1) + (Go.Proofs.Ytfaojkajlpojlaa.Abs.Point.bulk x.At)))) + 1
theorem Cell.open40 : OpenT Try.prog 40 Cell.enc Cell.wf Cell.bulk :=
  (openT_struct (T := 5) Try.underlying40 (by kernel_rfl) (openF_cons (openT_bool Try.underlying4) rfl (openF_cons (openT_int Try.underlying3) rfl (openF_cons (openT_str Try.underlying9) rfl (openF_one Go.Proofs.Ytfaojkajlpojlaa.Abs.Point.open38 rfl (by kernel_rfl)))))).map (fun (x : Bool × _root_.Int × (List UInt8) × Go.Proofs.Ytfaojkajlpojlaa.Abs.Point) => (⟨x.1, x.2.1, x.2.2.1, x.2.2.2⟩ : Cell)) (fun x => rfl) (fun x h => h) (fun x => Nat.le_refl _)
def Stat.wf (x : Stat) : Prop := (Lit.int .i64 x.Nulls).wf = true ∧ (True ∧ (Go.Proofs.Ytfaojkajlpojlaa.Abs.Cell.wf x.Min ∧ (Go.Proofs.Ytfaojkajlpojlaa.Abs.Cell.wf x.Max)))
def Stat.bulk (x : Stat) : Nat := (1 + (1 + (Go.Proofs.Ytfaojkajlpojlaa.Abs.Cell.bulk x.Min + (Go.Proofs.Ytfaojkajlpojlaa.Abs.Cell.bulk x.Max)))) + 1
theorem Stat.open42 : OpenT Try.prog 42 Stat.enc Stat.wf Stat.bulk :=
  (openT_struct (T := 12) Try.underlying42 (by kernel_rfl) (openF_cons (openT_int Try.underlying3) rfl (openF_cons (openT_bool Try.underlying4) rfl (openF_cons Go.Proofs.Ytfaojkajlpojlaa.Abs.Cell.open40 rfl (openF_one Go.Proofs.Ytfaojkajlpojlaa.Abs.Cell.open40 rfl (by kernel_rfl)))))).map (fun (x : _root_.Int × Bool × Go.Proofs.Ytfaojkajlpojlaa.Abs.Cell × Go.Proofs.Ytfaojkajlpojlaa.Abs.Cell) => (⟨x.1, x.2.1, x.2.2.1, x.2.2.2⟩ : Stat)) (fun x => rfl) (fun x h => h) (fun x => Nat.le_refl _)
def PageInfo.wf (x : PageInfo) : Prop := (Lit.int .i64 x.Size).wf = true ∧ ((Lit.int .i64 x.Rows).wf = true ∧ (Go.Proofs.Ytfaojkajlpojlaa.Abs.Stat.wf x.Stat))
def PageInfo.bulk (x : PageInfo) : Nat := (1 + (1 + (Go.Proofs.Ytfaojkajlpojlaa.Abs.Stat.bulk x.Stat))) + 1
theorem PageInfo.open44 : OpenT Try.prog 44 PageInfo.enc PageInfo.wf PageInfo.bulk :=
  (openT_struct (T := 14) Try.underlying44 (by kernel_rfl) (openF_cons (openT_int Try.underlying3) rfl (openF_cons (openT_int Try.underlying3) rfl (openF_one Go.Proofs.Ytfaojkajlpojlaa.Abs.Stat.open42 rfl (by kernel_rfl))))).map (fun (x : _root_.Int × _root_.Int × Go.Proofs.Ytfaojkajlpojlaa.Abs.Stat) => (⟨x.1, x.2.1, x.2.2⟩ : PageInfo)) (fun x => rfl) (fun x h => h) (fun x => Nat.le_refl _)
def Group.wf (x : Group) : Prop := (Lit.int .i64 x.Rows).wf = true ∧ ((x.Chunks.length ≤ maxLen ∧ ∀ y ∈ x.Chunks, (y.length ≤ maxLen ∧ ∀ y2 ∈ y, Go.Proofs.Ytfaojkajlpojlaa.Abs.PageInfo.wf y2)))
def Group.bulk (x : Group) : Nat := (1 + ((sumB (fun y => (sumB (fun y => Go.Proofs.Ytfaojkajlpojlaa.Abs.PageInfo.bulk y) y + 1)) x.Chunks + 1))) + 1
theorem Group.open31 : OpenT Try.prog 31 Group.enc Group.wf Group.bulk :=
  (openT_struct (T := 2) Try.underlying31 (by kernel_rfl) (openF_cons (openT_int Try.underlying3) rfl (openF_one (openT_slice (sz := 1) Try.underlying29 (by kernel_rfl) (by decide) (openT_slice (sz := 14) Try.underlying28 (by kernel_rfl) (by decide) Go.Proofs.Ytfaojkajlpojlaa.Abs.PageInfo.open44)) rfl (by kernel_rfl)))).map (fun (x : _root_.Int × (List (List Go.Proofs.Ytfaojkajlpojlaa.Abs.PageInfo))) => (⟨x.1, x.2⟩ : Group)) (fun x => rfl) (fun x h => h) (fun x => Nat.le_refl _)
def Footer.wf (x : Footer) : Prop := (x.Cols.length ≤ maxLen ∧ ∀ y ∈ x.Cols, Go.Proofs.Ytfaojkajlpojlaa.Abs.Col.wf y) ∧ ((Lit.int .i64 x.Rows).wf = true ∧ ((x.Groups.length ≤ maxLen ∧ ∀ y ∈ x.Groups, Go.Proofs.Ytfaojkajlpojlaa.Abs.Group.wf y)))
def Footer.bulk (x : Footer) : Nat := ((sumB (fun y => Go.Proofs.Ytfaojkajlpojlaa.Abs.Col.bulk y) x.Cols + 1) + (1 + ((sumB (fun y => Go.Proofs.Ytfaojkajlpojlaa.Abs.Group.bulk y) x.Groups + 1)))) + 1
theorem Footer.open25 : OpenT Try.prog 25 Footer.enc Footer.wf Footer.bulk :=
  (openT_struct (T := 3) Try.underlying25 (by kernel_rfl) (openF_cons (openT_slice (sz := 3) Try.underlying22 (by kernel_rfl) (by decide) Go.Proofs.Ytfaojkajlpojlaa.Abs.Col.open46) rfl (openF_cons (openT_int Try.underlying3) rfl (openF_one (openT_slice (sz := 2) Try.underlying23 (by kernel_rfl) (by decide) Go.Proofs.Ytfaojkajlpojlaa.Abs.Group.open31) rfl (by kernel_rfl))))).map (fun (x : (List Go.Proofs.Ytfaojkajlpojlaa.Abs.Col) × _root_.Int × (List Go.Proofs.Ytfaojkajlpojlaa.Abs.Group)) => (⟨x.1, x.2.1, x.2.2⟩ : Footer)) (fun x => rfl) (fun x h => h) (fun x => Nat.le_refl _)
def text0 : List UInt8 := [0, 1, 2, 2, 3, 3, 3, 3, 4, 4, 4, 4, 4, 4, 4, 4, 5, 5, 5, 5, 5, 5, 5, 5, 5, 5, 5, 5, 5, 5, 5, 5, 6, 6, 6, 6, 6, 6, 6, 6, 6, 6, 6, 6, 6, 6, 6, 6, 6, 6, 6, 6, 6, 6, 6, 6, 6, 6, 6, 6, 6, 6, 6, 6, 7, 7, 7, 7, 7, 7, 7, 7, 7, 7, 7, 7, 7, 7, 7, 7, 7, 7, 7, 7, 7, 7, 7, 7, 7, 7, 7, 7, 7, 7, 7, 7, 7, 7, 7, 7, 7, 7, 7, 7, 7, 7, 7, 7, 7, 7, 7, 7, 7, 7, 7, 7, 7, 7, 7, 7, 7, 7, 7, 7, 7, 7, 7, 7, 8, 8, 8, 8, 8, 8, 8, 8, 8, 8, 8, 8, 8, 8, 8, 8, 8, 8, 8, 8, 8, 8, 8, 8, 8, 8, 8, 8, 8, 8, 8, 8, 8, 8, 8, 8, 8, 8, 8, 8, 8, 8, 8, 8, 8, 8, 8, 8, 8, 8, 8, 8, 8, 8, 8, 8, 8, 8, 8, 8, 8, 8, 8, 8, 8, 8, 8, 8, 8, 8, 8, 8, 8, 8, 8, 8, 8, 8, 8, 8, 8, 8, 8, 8, 8, 8, 8, 8, 8, 8, 8, 8, 8, 8, 8, 8, 8, 8, 8, 8, 8, 8, 8, 8, 8, 8, 8, 8, 8, 8, 8, 8, 8, 8, 8, 8, 8, 8, 8, 8, 8, 8, 8, 8, 8, 8, 8, 8]
mutual
def cell_Cols.j1 : Nat → (List Col) → Int → (List ((List UInt8) × Int)) → Bool → Option (Int)
  | 0, _, _, _, _ => none
  | k + 1, a0, x3, x4, x5 => if x5 = true then (some 1) else (if (decide (((rd a0 x3 Col.zero).Type_) < 0)) = true then (some 3) else (if (decide (((rd a0 x3 Col.zero).Type_) ≥ 4)) = true then (some 3) else (cell_Cols.l0 k a0 (IntKind.wrap .i64 (x3 + 1)) (mset x4 ((rd a0 x3 Col.zero).Name) (IntKind.wrap .i64 (((mget x4 ((rd a0 x3 Col.zero).Name)).getD 0) + 1))))))
def cell_Cols.l0 : Nat → (List Col) → Int → (List ((List UInt8) × Int)) → Option (Int)
  | 0, _, _, _ => none
  | k + 1, a0, x3, x4 => if (decide (x3 < (a0.length : Int))) = true then (if 0 ≤ x3 ∧ x3 < (a0.length : Int) then (if (((rd a0 x3 Col.zero).Name) == []) = true then (cell_Cols.j1 k a0 x3 x4 true) else (if (decide ((((rd a0 x3 Col.zero).Name).length : Int) > 100)) = true then (cell_Cols.j1 k a0 x3 x4 true) else (cell_Cols.j1 k a0 x3 x4 (decide (((mget (mset x4 ((rd a0 x3 Col.zero).Name) (IntKind.wrap .i64 (((mget x4 ((rd a0 x3 Col.zero).Name)).getD 0) + 1))) ((rd a0 x3 Col.zero).Name)).getD 0) > 1))))) else none) else (some 0)
end
def cell_Cols.f (k : Nat) (a0 : (List Col)) : Option (Int) := if (decide ((a0.length : Int) > 64)) = true then (some 4) else (cell_Cols.l0 k a0 0 ([] : List ((List UInt8) × Int)))
theorem cell_Cols.mono_l : ∀ k, (∀ y0 y1 y2 y3, LeO (cell_Cols.j1 k y0 y1 y2 y3) (cell_Cols.j1 (k + 1) y0 y1 y2 y3)) ∧ (∀ y0 y1 y2, LeO (cell_Cols.l0 k y0 y1 y2) (cell_Cols.l0 (k + 1) y0 y1 y2))
  | 0 => ⟨fun _ _ _ _ r h => (by simp only [cell_Cols.j1] at h; cases h), fun _ _ _ r h => (by simp only [cell_Cols.l0] at h; cases h)⟩
  | k + 1 => by
    have ih := cell_Cols.mono_l k
    refine ⟨?_, ?_⟩
    · intro y0 y1 y2 y3
      rw [cell_Cols.j1, cell_Cols.j1]
      repeat' first
        | exact LeO.refl _
        | exact LeO.none _
        | exact ih.1 _ _ _ _
        | exact ih.2 _ _ _
        | refine LeO.ite ?_ ?_
        | refine LeO.bind ?_ (fun _ => ?_)
    · intro y0 y1 y2
      rw [cell_Cols.l0, cell_Cols.l0]
      repeat' first
        | exact LeO.refl _
        | exact LeO.none _
        | exact ih.1 _ _ _ _
        | exact ih.2 _ _ _
        | refine LeO.ite ?_ ?_
        | refine LeO.bind ?_ (fun _ => ?_)
theorem cell_Cols.mono (k : Nat) (a0 : (List Col)) : LeO (cell_Cols.f k a0) (cell_Cols.f (k + 1) a0) := by
  unfold cell_Cols.f
  repeat' first
    | exact LeO.refl _
    | exact LeO.none _
    | exact (cell_Cols.mono_l k).1 _ _ _ _
    | exact (cell_Cols.mono_l k).2 _ _ _
    | refine LeO.ite ?_ ?_
    | refine LeO.bind ?_ (fun _ => ?_)
theorem cell_Cols.ok (k : Nat) (a0 : (List Col)) (S : Store) (r : Int) (h : cell_Cols.f k a0 = some r) : ACalls Try.prog 26 [.sl 3 (a0.map Col.enc) none] S (fun r_ S_ => r_ = i64 r ∧ Own S [] S_ []) := by
  unfold cell_Cols.f at h
  refine acalls_of Try.func26 rfl ?_
  have hh := Own.nil (S := S)
  refine AT_forget 0x1 (mkS 48 [(0, .sl 3 (a0.map Col.enc) none)]) (by kernel_rfl) ?_
  refine zsr ?_
  refine seg 1 [0] [] [] (by kernel_rfl) (by kernel_rfl) ?_
  refine zn ?_
  refine AT_seq ?_
  refine zsr ?_
  refine seg 2 [0, 7] [(7, i64 ((a0.map Col.enc).length : Int))] [2] (by kernel_rfl) (by kernel_rfl) ?_
  refine tod 7 (i64 ((a0.map Col.enc).length : Int)) (i64 (a0.length : Int)) (by kernel_rfl) (by rw [List.length_map]) ?_
  refine seg 1 [0, 8] [(8, bo (decide ((a0.length : Int) > 64)))] [] (by kernel_rfl) (by kernel_rfl) ?_
  refine zn ?_
  refine AT_condS (decide ((a0.length : Int) > 64)) (by kernel_rfl) (fun hc1 => ?_) (fun hc1 => ?_)
  · rw [if_t hc1] at h
    refine zsr ?_
    refine seg 1 [2] [(2, i64 4)] [] (by kernel_rfl) (by kernel_rfl) ?_
    refine zn ?_
    refine AT_ret ?_
    refine athen_r ?_
    have e_ := Option.some.inj h
    subst e_
    exact ⟨[i64 4], _, S, (.of (by kernel_rfl)), D.le.refl _, Store.le.refl _, rfl, hh⟩
  rw [if_f hc1] at h
  refine zkn ?_
  refine zsr ?_
  refine AOps_makeMapU (tl_get rfl) rfl rfl (fun S_ m1 hf_ u_ => ?_)
  replace hh := hh.obN hf_ u_
  refine fg [0, 9] ?_
  refine seg 1 [0, 3] [(3, .mp m1)] [] (by kernel_rfl) (by kernel_rfl) ?_
  refine zn ?_
  refine AT_seq ?_
  refine zsr ?_
  refine seg 2 [3, 10, 11] [(10, .sl 3 (a0.map Col.enc) none), (11, i64 ((a0.map Col.enc).length : Int))] [2] (by kernel_rfl) (by kernel_rfl) ?_
  refine tod 11 (i64 ((a0.map Col.enc).length : Int)) (i64 (a0.length : Int)) (by kernel_rfl) (by rw [List.length_map]) ?_
  refine seg 1 [3, 10, 11, 12] [(12, i64 0)] [] (by kernel_rfl) (by kernel_rfl) ?_
  refine zn ?_
  refine AT_block ?_
  refine AT_loopM 0x1c08 (fun k_ sl_ S_ => k_ ≤ k ∧ ∃ (x3 : Int), ∃ (x4 : (List ((List UInt8) × Int))), LeL sl_ (mkS 48 [(3, .mp m1), (10, .sl 3 (a0.map Col.enc) none), (11, i64 (a0.length : Int)), (12, i64 x3)]) ∧ cell_Cols.l0 k_ a0 x3 x4 = some r ∧ Own S [] S_ [.o m1 (mapO (x4.map (fun y => (.string ⟨y.1.toArray⟩, i64 y.2))))]) k ⟨Nat.le_refl _, 0, ([] : List ((List UInt8) × Int)), (le_rf (by kernel_rfl)), h, hh⟩ ?_
  clear hh h
  rintro k' sl_ S_ ⟨hk_, x3, x4, hl_, h, hh⟩
  refine AT_weaken hl_ ?_
  obtain _ | k3 := k'
  · cases h
  rw [cell_Cols.l0] at h
  refine zsr ?_
  refine seg 1 [3, 10, 11, 12, 13] [(13, bo (decide (x3 < (a0.length : Int))))] [] (by kernel_rfl) (by kernel_rfl) ?_
  refine zn ?_
  refine AT_seq ?_
  refine AT_condR (decide (x3 < (a0.length : Int))) (by kernel_rfl) (fun hc10 => ?_) (fun hc10 => ?_)
  · rw [if_f hc10] at h
    refine AT_exit ?_
    refine athen_e ?_
    refine athen_e ?_
    refine ablock_h ?_
    refine athen_n ?_
    refine zsr ?_
    refine seg 1 [2] [(2, i64 0)] [] (by kernel_rfl) (by kernel_rfl) ?_
    refine zn ?_
    refine AT_ret ?_
    have e_ := Option.some.inj h
    subst e_
    exact ⟨[i64 0], _, S_, (.of (by kernel_rfl)), D.le.refl _, Store.le.refl _, rfl, (hh.sub [] (by decide) (by kernel_rfl))⟩
  rw [if_t hc10] at h
  refine zkn ?_
  refine AT_seq ?_
  refine AT_block ?_
  refine zsr ?_
  obtain ⟨hi4, h⟩ := is h
  refine segc 1 [3, 10, 11, 12, 14] [(14, .pt ((a0.map Col.enc).getD (x3 : Int).toNat []))] (0 ≤ x3 ∧ x3 < ((a0.map Col.enc).length : Int)) [1, 2, 3] (by kernel_rfl) (by kernel_rfl) (idx_ok hi4) ?_
  refine tod 14 (.pt ((a0.map Col.enc).getD (x3 : Int).toNat [])) (.pt (Col.enc (rd a0 x3 Col.zero))) (by kernel_rfl) (by rw [pt_rd Col.enc a0 x3 Col.zero hi4.1 hi4.2]) ?_
  refine seg 1 [3, 10, 11, 12, 15] [(15, .ag (Col.enc (rd a0 x3 Col.zero)))] [2, 3] (by kernel_rfl) (by kernel_rfl) ?_
  refine AOps_newvar (zs := [str [], i64 0, bo false]) (ds := (Col.enc (rd a0 x3 Col.zero))) (d := 5) (tl_get rfl) rfl rfl rfl (by kernel_rfl) (by kernel_rfl) (tl_get rfl) (fun _ => rfl) rfl rfl (fun _ => rfl) rfl (by kernel_rfl) (by kernel_rfl) ?_
  refine AOps_forget 0x1c28 (mkS 48 [(3, .mp m1), (5, .pt (Col.enc (rd a0 x3 Col.zero))), (10, .sl 3 (a0.map Col.enc) none), (11, i64 (a0.length : Int)), (12, i64 x3)]) (by kernel_rfl) ?_
  refine znsr ?_
  refine seg 3 [3, 5, 10, 11, 12, 16, 18] [(16, .mp m1), (18, str ((rd a0 x3 Col.zero).Name))] [3, 4, 5] (by kernel_rfl) (by kernel_rfl) ?_
  refine AOps_lookup (dsc := .string) (es := x4.map (fun y => (.string ⟨y.1.toArray⟩, i64 y.2))) (res := (mget x4 ((rd a0 x3 Col.zero).Name)).map (fun y => i64 y)) (zd := i64 0) (tl_get rfl) rfl rfl rfl rfl rfl (hh.ob 0 (by kernel_rfl)) rfl trivial (by intro x hx; obtain ⟨y, _, rfl⟩ := List.mem_map.1 hx; exact trivial) (look_list (fun y => Value.string ⟨y.toArray⟩) str_inj (fun y => i64 y) ((rd a0 x3 Col.zero).Name) x4) (by kernel_rfl) ?_
  refine fg [3, 5, 10, 11, 12, 16, 18, 19] ?_
  refine tod 19 (((mget x4 ((rd a0 x3 Col.zero).Name)).map (fun y => i64 y)).getD (i64 0)) (i64 ((mget x4 ((rd a0 x3 Col.zero).Name)).getD 0)) (by kernel_rfl) (by rw [getD_map (fun y => i64 y)]) ?_
  refine seg 1 [3, 5, 10, 11, 12, 16, 18, 20] [(20, i64 (IntKind.wrap .i64 (((mget x4 ((rd a0 x3 Col.zero).Name)).getD 0) + 1)))] [5] (by kernel_rfl) (by kernel_rfl) ?_
  refine AOps_set (dsc := .string) (es := x4.map (fun y => (.string ⟨y.1.toArray⟩, i64 y.2))) (es' := (mset x4 ((rd a0 x3 Col.zero).Name) (IntKind.wrap .i64 (((mget x4 ((rd a0 x3 Col.zero).Name)).getD 0) + 1))).map (fun y => (.string ⟨y.1.toArray⟩, i64 y.2))) (kv := .string ⟨((rd a0 x3 Col.zero).Name).toArray⟩) (tl_get rfl) rfl (.inr rfl) rfl rfl rfl (hh.ob 0 (by kernel_rfl)) rfl trivial (by intro x hx; obtain ⟨y, _, rfl⟩ := List.mem_map.1 hx; exact trivial) (set_list (fun y => Value.string ⟨y.toArray⟩) str_inj (fun y => i64 y) ((rd a0 x3 Col.zero).Name) (IntKind.wrap .i64 (((mget x4 ((rd a0 x3 Col.zero).Name)).getD 0) + 1)) x4) (fun S_ u_ => ?_)
  replace hh := hh.obS' 0 (by kernel_rfl) u_
  refine fg0 [3, 5, 10, 11, 12] ?_
  refine zn ?_
  refine AT_block ?_
  refine AT_cutM 0x201c28 (fun sl_ S_ => ∃ (k_ : Nat), k_ ≤ k3 ∧ ∃ (x5 : Bool), LeL sl_ (mkS 48 [(3, .mp m1), (5, .pt (Col.enc (rd a0 x3 Col.zero))), (10, .sl 3 (a0.map Col.enc) none), (11, i64 (a0.length : Int)), (12, i64 x3), (21, bo x5)]) ∧ cell_Cols.j1 k_ a0 x3 x4 x5 = some r ∧ Own S [] S_ [.o m1 (mapO ((mset x4 ((rd a0 x3 Col.zero).Name) (IntKind.wrap .i64 (((mget x4 ((rd a0 x3 Col.zero).Name)).getD 0) + 1))).map (fun y => (.string ⟨y.1.toArray⟩, i64 y.2))))]) ?_ ?_
  · refine AT_region ?_
    refine seg 4 [3, 5, 10, 11, 12, 25] [(25, bo (((rd a0 x3 Col.zero).Name) == []))] [4, 5, 6, 7, 8, 9, 10, 11, 12, 13, 14, 15, 16] (by kernel_rfl) (by kernel_rfl) ?_
    refine cased 25 (((rd a0 x3 Col.zero).Name) == []) (by kernel_rfl) (fun hc13 => ?_) (fun hc13 => ?_)
    · rw [if_t hc13] at h
      refine seg 13 [3, 5, 10, 11, 12, 21] [(21, bo true)] [] (by kernel_rfl) (by kernel_rfl) ?_
      refine zn ?_
      exact ⟨k3, (by omega), true, (le_rf (by kernel_rfl)), h, hh⟩
    rw [if_f hc13] at h
    refine seg 6 [3, 5, 10, 11, 12, 31] [(31, bo (decide ((((rd a0 x3 Col.zero).Name).length : Int) > 100)))] [10, 11, 12, 13, 14, 15, 16] (by kernel_rfl) (by kernel_rfl) ?_
    refine cased 31 (decide ((((rd a0 x3 Col.zero).Name).length : Int) > 100)) (by kernel_rfl) (fun hc14 => ?_) (fun hc14 => ?_)
    · rw [if_t hc14] at h
      refine seg 7 [3, 5, 10, 11, 12, 21] [(21, bo true)] [] (by kernel_rfl) (by kernel_rfl) ?_
      refine zn ?_
      exact ⟨k3, (by omega), true, (le_rf (by kernel_rfl)), h, hh⟩
    rw [if_f hc14] at h
    refine seg 3 [3, 5, 10, 11, 12, 31, 32, 34] [(32, .mp m1), (34, str ((rd a0 x3 Col.zero).Name))] [13, 14, 15, 16] (by kernel_rfl) (by kernel_rfl) ?_
    refine AOps_lookup (dsc := .string) (es := (mset x4 ((rd a0 x3 Col.zero).Name) (IntKind.wrap .i64 (((mget x4 ((rd a0 x3 Col.zero).Name)).getD 0) + 1))).map (fun y => (.string ⟨y.1.toArray⟩, i64 y.2))) (res := (mget (mset x4 ((rd a0 x3 Col.zero).Name) (IntKind.wrap .i64 (((mget x4 ((rd a0 x3 Col.zero).Name)).getD 0) + 1))) ((rd a0 x3 Col.zero).Name)).map (fun y => i64 y)) (zd := i64 0) (tl_get rfl) rfl rfl rfl rfl rfl (hh.ob 0 (by kernel_rfl)) rfl trivial (by intro x hx; obtain ⟨y, _, rfl⟩ := List.mem_map.1 hx; exact trivial) (look_list (fun y => Value.string ⟨y.toArray⟩) str_inj (fun y => i64 y) ((rd a0 x3 Col.zero).Name) (mset x4 ((rd a0 x3 Col.zero).Name) (IntKind.wrap .i64 (((mget x4 ((rd a0 x3 Col.zero).Name)).getD 0) + 1)))) (by kernel_rfl) ?_
    refine fg [3, 5, 10, 11, 12, 31, 35] ?_
    refine tod 35 (((mget (mset x4 ((rd a0 x3 Col.zero).Name) (IntKind.wrap .i64 (((mget x4 ((rd a0 x3 Col.zero).Name)).getD 0) + 1))) ((rd a0 x3 Col.zero).Name)).map (fun y => i64 y)).getD (i64 0)) (i64 ((mget (mset x4 ((rd a0 x3 Col.zero).Name) (IntKind.wrap .i64 (((mget x4 ((rd a0 x3 Col.zero).Name)).getD 0) + 1))) ((rd a0 x3 Col.zero).Name)).getD 0)) (by kernel_rfl) (by rw [getD_map (fun y => i64 y)]) ?_
    refine AOps_seg 3 0x201c28 (mkS 48 [(3, .mp m1), (5, .pt (Col.enc (rd a0 x3 Col.zero))), (10, .sl 3 (a0.map Col.enc) none), (11, i64 (a0.length : Int)), (12, i64 x3), (21, bo (decide (((mget (mset x4 ((rd a0 x3 Col.zero).Name) (IntKind.wrap .i64 (((mget x4 ((rd a0 x3 Col.zero).Name)).getD 0) + 1))) ((rd a0 x3 Col.zero).Name)).getD 0) > 1)))]) none [] (by kernel_rfl) (by kernel_rfl) trivial ?_
    refine zn ?_
    exact ⟨k3, (by omega), decide (((mget (mset x4 ((rd a0 x3 Col.zero).Name) (IntKind.wrap .i64 (((mget x4 ((rd a0 x3 Col.zero).Name)).getD 0) + 1))) ((rd a0 x3 Col.zero).Name)).getD 0) > 1), (le_rf (by kernel_rfl)), h, hh⟩
  clear h hh
  rintro sl_ S_ ⟨k', hk_, x5, hl_, h, hh⟩
  refine AT_weaken hl_ ?_
  obtain _ | k4 := k'
  · cases h
  rw [cell_Cols.j1] at h
  refine AT_condS x5 (by kernel_rfl) (fun hc15 => ?_) (fun hc15 => ?_)
  · rw [if_t hc15] at h
    refine zsr ?_
    refine seg 1 [2] [(2, i64 1)] [] (by kernel_rfl) (by kernel_rfl) ?_
    refine zn ?_
    refine AT_ret ?_
    refine ablock_r ?_
    refine ablock_r ?_
    refine athen_r ?_
    refine athen_r ?_
    refine ablock_r ?_
    refine athen_r ?_
    have e_ := Option.some.inj h
    subst e_
    exact ⟨[i64 1], _, S_, (.of (by kernel_rfl)), D.le.refl _, Store.le.refl _, rfl, (hh.sub [] (by decide) (by kernel_rfl))⟩
  rw [if_f hc15] at h
  refine zsr ?_
  refine seg 4 [3, 5, 10, 11, 12, 42] [(42, bo (decide (((rd a0 x3 Col.zero).Type_) < 0)))] [4, 5, 6, 7, 8] (by kernel_rfl) (by kernel_rfl) ?_
  refine cased 42 (decide (((rd a0 x3 Col.zero).Type_) < 0)) (by kernel_rfl) (fun hc16 => ?_) (fun hc16 => ?_)
  · rw [if_t hc16] at h
    refine seg 5 [3, 10, 11, 12, 38] [(38, bo true)] [] (by kernel_rfl) (by kernel_rfl) ?_
    refine zn ?_
    refine AT_cond_t (by kernel_rfl) ?_
    refine zsr ?_
    refine seg 1 [2] [(2, i64 3)] [] (by kernel_rfl) (by kernel_rfl) ?_
    refine zn ?_
    refine AT_ret ?_
    refine ablock_r ?_
    refine ablock_r ?_
    refine athen_r ?_
    refine athen_r ?_
    refine ablock_r ?_
    refine athen_r ?_
    have e_ := Option.some.inj h
    subst e_
    exact ⟨[i64 3], _, S_, (.of (by kernel_rfl)), D.le.refl _, Store.le.refl _, rfl, (hh.sub [] (by decide) (by kernel_rfl))⟩
  rw [if_f hc16] at h
  refine seg 5 [3, 10, 11, 12, 38] [(38, bo (decide (((rd a0 x3 Col.zero).Type_) ≥ 4)))] [] (by kernel_rfl) (by kernel_rfl) ?_
  refine zn ?_
  refine AT_condR (decide (((rd a0 x3 Col.zero).Type_) ≥ 4)) (by kernel_rfl) (fun hc17 => ?_) (fun hc17 => ?_)
  · rw [if_f hc17] at h
    refine AT_skip ?_
    refine ablock_n ?_
    refine ablock_n ?_
    refine athen_n ?_
    refine AT_region ?_
    refine seg 2 [3, 10, 11, 12] [(12, i64 (IntKind.wrap .i64 (x3 + 1)))] [] (by kernel_rfl) (by kernel_rfl) ?_
    refine zn ?_
    exact ⟨k4, (by omega), (by omega), IntKind.wrap .i64 (x3 + 1), mset x4 ((rd a0 x3 Col.zero).Name) (IntKind.wrap .i64 (((mget x4 ((rd a0 x3 Col.zero).Name)).getD 0) + 1)), (le_rf (by kernel_rfl)), h, hh⟩
  rw [if_t hc17] at h
  refine zsr ?_
  refine seg 1 [2] [(2, i64 3)] [] (by kernel_rfl) (by kernel_rfl) ?_
  refine zn ?_
  refine AT_ret ?_
  refine ablock_r ?_
  refine ablock_r ?_
  refine athen_r ?_
  refine athen_r ?_
  refine ablock_r ?_
  refine athen_r ?_
  have e_ := Option.some.inj h
  subst e_
  exact ⟨[i64 3], _, S_, (.of (by kernel_rfl)), D.le.refl _, Store.le.refl _, rfl, (hh.sub [] (by decide) (by kernel_rfl))⟩
def cell_plain.j0 : Nat → Cell → Int → Bool → Option (Cell)
  | 0, _, _, _ => none
  | k + 1, a0, a1, x2 => if x2 = true then (some (⟨false, a0.Int, [], (⟨0, 0⟩ : Point)⟩ : Cell)) else (if (a1 == 2) = true then (some (⟨false, 0, a0.Text, (⟨0, 0⟩ : Point)⟩ : Cell)) else (some (⟨false, 0, [], a0.At⟩ : Cell)))
def cell_plain.f (k : Nat) (a0 : Cell) (a1 : Int) : Option (Cell) := if (a1 == 0) = true then (cell_plain.j0 k a0 a1 (a1 == 0)) else (cell_plain.j0 k a0 a1 (a1 == 1))
theorem cell_plain.mono_l : ∀ k, (∀ y0 y1 y2, LeO (cell_plain.j0 k y0 y1 y2) (cell_plain.j0 (k + 1) y0 y1 y2))
  | 0 => fun _ _ _ r h => (by simp only [cell_plain.j0] at h; cases h)
  | k + 1 => by
    have ih := cell_plain.mono_l k
    · intro y0 y1 y2
      rw [cell_plain.j0, cell_plain.j0]
      repeat' first
        | exact LeO.refl _
        | exact LeO.none _
        | exact ih _ _ _
        | refine LeO.ite ?_ ?_
        | refine LeO.bind ?_ (fun _ => ?_)
theorem cell_plain.mono (k : Nat) (a0 : Cell) (a1 : Int) : LeO (cell_plain.f k a0 a1) (cell_plain.f (k + 1) a0 a1) := by
  unfold cell_plain.f
  repeat' first
    | exact LeO.refl _
    | exact LeO.none _
    | exact (cell_plain.mono_l k) _ _ _
    | refine LeO.ite ?_ ?_
    | refine LeO.bind ?_ (fun _ => ?_)
theorem cell_plain.ok (k : Nat) (a0 : Cell) (a1 : Int) (S : Store) (r : Cell) (h : cell_plain.f k a0 a1 = some r) : ACalls Try.prog 52 [.ag (Cell.enc a0), i64 a1] S (fun r_ S_ => r_ = .ag (Cell.enc r) ∧ Own S [] S_ []) := by
  unfold cell_plain.f at h
  refine acalls_of Try.func52 rfl ?_
  have hh := Own.nil (S := S)
  refine AT_forget 0x3 (mkS 20 [(0, .ag (Cell.enc a0)), (1, i64 a1)]) (by kernel_rfl) ?_
  refine zsr ?_
  refine AOps_box_im (ds := (Cell.enc a0)) (tl_get rfl) rfl rfl (by kernel_rfl) ?_
  refine fg [1, 2] ?_
  refine AOps_allocV (ds := [bo false, i64 0, str [], i64 0, i64 0]) (cs' := [bo false, i64 0, str [], i64 0, i64 0]) (tl_get rfl) rfl rfl (by kernel_rfl) (LeL.refl _) (fun S_ m1 hf_ u_ => ?_)
  replace hh := hh.obN hf_ u_
  refine fg [1, 2, 4] ?_
  refine zn ?_
  refine AT_seq ?_
  refine zsr ?_
  refine seg 1 [2, 4, 5] [(5, i64 a1)] [] (by kernel_rfl) (by kernel_rfl) ?_
  refine zn ?_
  refine AT_block ?_
  refine AT_cutM 0x74 (fun sl_ S_ => ∃ (k_ : Nat), k_ ≤ k ∧ ∃ (x2 : Bool), LeL sl_ (mkS 20 [(2, .pt (Cell.enc a0)), (4, .ob m1 0), (5, i64 a1), (6, bo x2)]) ∧ cell_plain.j0 k_ a0 a1 x2 = some r ∧ Own S [] S_ [.o m1 (.cells 40 [bo false, i64 0, str [], i64 0, i64 0])]) ?_ ?_
  · refine AT_seq ?_
    refine AT_region ?_
    refine seg 2 [2, 4, 5, 6] [(6, bo (a1 == 0))] [] (by kernel_rfl) (by kernel_rfl) ?_
    refine zn ?_
    refine AT_condS (a1 == 0) (by kernel_rfl) (fun hc6 => ?_) (fun hc6 => ?_)
    · rw [if_t hc6] at h
      refine zkn ?_
      exact ⟨k, (by omega), a1 == 0, (le_rf (by kernel_rfl)), h, hh⟩
    rw [if_f hc6] at h
    refine AT_region ?_
    refine seg 2 [2, 4, 5, 6] [(6, bo (a1 == 1))] [] (by kernel_rfl) (by kernel_rfl) ?_
    refine zn ?_
    exact ⟨k, (by omega), a1 == 1, (le_rf (by kernel_rfl)), h, hh⟩
  clear h hh
  rintro sl_ S_ ⟨k', hk_, x2, hl_, h, hh⟩
  refine AT_weaken hl_ ?_
  obtain _ | k2 := k'
  · cases h
  rw [cell_plain.j0] at h
  refine AT_condS x2 (by kernel_rfl) (fun hc7 => ?_) (fun hc7 => ?_)
  · rw [if_t hc7] at h
    refine zsr ?_
    refine seg 3 [4, 11] [(11, .ag [bo false, i64 a0.Int, str [], i64 0, i64 0])] [3] (by kernel_rfl) (by kernel_rfl) ?_
    refine AOps_putV (T := 40) (off := 0) (cs := [bo false, i64 0, str [], i64 0, i64 0]) (ds := [bo false, i64 a0.Int, str [], i64 0, i64 0]) (cs' := [bo false, i64 a0.Int, str [], i64 0, i64 0]) (tl_get rfl) rfl rfl rfl (hh.ob 0 (by kernel_rfl)) rfl (by kernel_rfl) (Nat.le_of_ble_eq_true rfl) (LeL.refl _) (fun S_ u_ => ?_)
    replace hh := hh.obS' 0 (by kernel_rfl) u_
    refine fg0 [4] ?_
    refine zn ?_
    refine AT_ret ?_
    refine ablock_r ?_
    refine athen_r ?_
    have e_ := Option.some.inj h
    subst e_
    exact ⟨[.ag [bo false, i64 a0.Int, str [], i64 0, i64 0]], _, S_, (.ob (k := m1) (o := 0) (T := 40) (cs := [bo false, i64 a0.Int, str [], i64 0, i64 0]) (by kernel_rfl) (hh.ob 0 (by kernel_rfl)) (.inl ⟨by kernel_rfl, 5, by kernel_rfl, Nat.le_of_ble_eq_true rfl, by kernel_rfl⟩) (.nil)), D.le.refl _, Store.le.refl _, rfl, (hh.sub [] (by decide) (by kernel_rfl))⟩
  rw [if_f hc7] at h
  refine zsr ?_
  refine seg 2 [2, 4, 12] [(12, bo (a1 == 2))] [] (by kernel_rfl) (by kernel_rfl) ?_
  refine zn ?_
  refine AT_condS (a1 == 2) (by kernel_rfl) (fun hc8 => ?_) (fun hc8 => ?_)
  · rw [if_t hc8] at h
    refine zsr ?_
    refine seg 3 [4, 16] [(16, .ag [bo false, i64 0, str a0.Text, i64 0, i64 0])] [3] (by kernel_rfl) (by kernel_rfl) ?_
    refine AOps_putV (T := 40) (off := 0) (cs := [bo false, i64 0, str [], i64 0, i64 0]) (ds := [bo false, i64 0, str a0.Text, i64 0, i64 0]) (cs' := [bo false, i64 0, str a0.Text, i64 0, i64 0]) (tl_get rfl) rfl rfl rfl (hh.ob 0 (by kernel_rfl)) rfl (by kernel_rfl) (Nat.le_of_ble_eq_true rfl) (LeL.refl _) (fun S_ u_ => ?_)
    replace hh := hh.obS' 0 (by kernel_rfl) u_
    refine fg0 [4] ?_
    refine zn ?_
    refine AT_ret ?_
    refine ablock_r ?_
    refine athen_r ?_
    have e_ := Option.some.inj h
    subst e_
    exact ⟨[.ag [bo false, i64 0, str a0.Text, i64 0, i64 0]], _, S_, (.ob (k := m1) (o := 0) (T := 40) (cs := [bo false, i64 0, str a0.Text, i64 0, i64 0]) (by kernel_rfl) (hh.ob 0 (by kernel_rfl)) (.inl ⟨by kernel_rfl, 5, by kernel_rfl, Nat.le_of_ble_eq_true rfl, by kernel_rfl⟩) (.nil)), D.le.refl _, Store.le.refl _, rfl, (hh.sub [] (by decide) (by kernel_rfl))⟩
  rw [if_f hc8] at h
  refine AT_skip ?_
  refine ablock_n ?_
  refine athen_n ?_
  refine zsr ?_
  refine seg 3 [4, 19] [(19, .ag [bo false, i64 0, str [], i64 a0.At.X, i64 a0.At.Y])] [3] (by kernel_rfl) (by kernel_rfl) ?_
  refine AOps_putV (T := 40) (off := 0) (cs := [bo false, i64 0, str [], i64 0, i64 0]) (ds := [bo false, i64 0, str [], i64 a0.At.X, i64 a0.At.Y]) (cs' := [bo false, i64 0, str [], i64 a0.At.X, i64 a0.At.Y]) (tl_get rfl) rfl rfl rfl (hh.ob 0 (by kernel_rfl)) rfl (by kernel_rfl) (Nat.le_of_ble_eq_true rfl) (LeL.refl _) (fun S_ u_ => ?_)
  replace hh := hh.obS' 0 (by kernel_rfl) u_
  refine fg0 [4] ?_
  refine zn ?_
  refine AT_ret ?_
  have e_ := Option.some.inj h
  subst e_
  exact ⟨[.ag [bo false, i64 0, str [], i64 a0.At.X, i64 a0.At.Y]], _, S_, (.ob (k := m1) (o := 0) (T := 40) (cs := [bo false, i64 0, str [], i64 a0.At.X, i64 a0.At.Y]) (by kernel_rfl) (hh.ob 0 (by kernel_rfl)) (.inl ⟨by kernel_rfl, 5, by kernel_rfl, Nat.le_of_ble_eq_true rfl, by kernel_rfl⟩) (.nil)), D.le.refl _, Store.le.refl _, rfl, (hh.sub [] (by decide) (by kernel_rfl))⟩
def point_in.f (a0 : Int) (a1 : Int) : Option (Bool) := if (decide (a0 ≥ (IntKind.wrap .i64 (0 - a1)))) = true then (some (decide (a0 ≤ a1))) else (some false)
theorem point_in.ok (a0 : Int) (a1 : Int) (S : Store) (r : Bool) (h : point_in.f a0 a1 = some r) : ACalls Try.prog 69 [i64 a0, i64 a1] S (fun r_ S_ => r_ = bo r ∧ Own S [] S_ []) := by
  unfold point_in.f at h
  refine acalls_of Try.func69 rfl ?_
  have hh := Own.nil (S := S)
  refine AT_forget 0x3 (mkS 14 [(0, i64 a0), (1, i64 a1)]) (by kernel_rfl) ?_
  refine zsr ?_
  refine seg 1 [0, 1] [] [] (by kernel_rfl) (by kernel_rfl) ?_
  refine znsr ?_
  refine seg 5 [0, 1, 9] [(9, bo (decide (a0 ≥ (IntKind.wrap .i64 (0 - a1)))))] [5, 6, 7, 8, 9] (by kernel_rfl) (by kernel_rfl) ?_
  refine cased 9 (decide (a0 ≥ (IntKind.wrap .i64 (0 - a1)))) (by kernel_rfl) (fun hc1 => ?_) (fun hc1 => ?_)
  · rw [if_t hc1] at h
    refine seg 5 [4] [(4, bo (decide (a0 ≤ a1)))] [] (by kernel_rfl) (by kernel_rfl) ?_
    refine zn ?_
    refine AT_ret ?_
    have e_ := Option.some.inj h
    subst e_
    exact ⟨[bo (decide (a0 ≤ a1))], _, S, (.of (by kernel_rfl)), D.le.refl _, Store.le.refl _, rfl, hh⟩
  rw [if_f hc1] at h
  refine seg 5 [4] [(4, bo false)] [] (by kernel_rfl) (by kernel_rfl) ?_
  refine zn ?_
  refine AT_ret ?_
  have e_ := Option.some.inj h
  subst e_
  exact ⟨[bo false], _, S, (.of (by kernel_rfl)), D.le.refl _, Store.le.refl _, rfl, hh⟩
def point_Right.f (a0 : Point) : Option (Bool) := (point_in.f a0.X 1048576).bind fun v1 => (if v1 = true then ((point_in.f a0.Y 1048576).bind fun v2 => (some v2)) else (some false))
theorem point_Right.ok (a0 : Point) (S : Store) (r : Bool) (h : point_Right.f a0 = some r) : ACalls Try.prog 53 [.ag (Point.enc a0)] S (fun r_ S_ => r_ = bo r ∧ Own S [] S_ []) := by
  unfold point_Right.f at h
  refine acalls_of Try.func53 rfl ?_
  have hh := Own.nil (S := S)
  refine AT_forget 0x1 (mkS 11 [(0, .ag (Point.enc a0))]) (by kernel_rfl) ?_
  refine zsr ?_
  refine AOps_box_im (ds := (Point.enc a0)) (tl_get rfl) rfl rfl (by kernel_rfl) ?_
  refine fg [1] ?_
  refine seg 1 [1] [] [] (by kernel_rfl) (by kernel_rfl) ?_
  refine znsr ?_
  refine seg 2 [1, 4] [(4, i64 a0.X)] [2, 3, 4, 5, 6, 7, 8] (by kernel_rfl) (by kernel_rfl) ?_
  obtain ⟨v1, ht1, h⟩ := bs h
  refine AOps_callR _ [i64 a0.X, i64 1048576] (tl_get rfl) rfl rfl rfl rfl Try.func69 (by decide) rfl ((.cons (D.le.refl _) (.cons (D.le.refl _) (.nil)))) (point_in.ok a0.X 1048576 _  _ ht1) ?_
  rintro _ S_ ⟨rfl, h2_⟩
  replace hh := hh.call0 h2_
  refine fg [1, 5] ?_
  refine seg 1 [1, 6] [(6, bo v1)] [4, 5, 6, 7, 8] (by kernel_rfl) (by kernel_rfl) ?_
  refine casedR 6 v1 (by kernel_rfl) (fun hc1 => ?_) (fun hc1 => ?_)
  · rw [if_f hc1] at h
    refine seg 5 [2] [(2, bo false)] [] (by kernel_rfl) (by kernel_rfl) ?_
    refine zn ?_
    refine AT_ret ?_
    have e_ := Option.some.inj h
    subst e_
    exact ⟨[bo false], _, S_, (.of (by kernel_rfl)), D.le.refl _, Store.le.refl _, rfl, hh⟩
  rw [if_t hc1] at h
  refine seg 2 [6, 8] [(8, i64 a0.Y)] [6, 7, 8] (by kernel_rfl) (by kernel_rfl) ?_
  obtain ⟨v2, ht2, h⟩ := bs h
  refine AOps_callR _ [i64 a0.Y, i64 1048576] (tl_get rfl) rfl rfl rfl rfl Try.func69 (by decide) rfl ((.cons (D.le.refl _) (.cons (D.le.refl _) (.nil)))) (point_in.ok a0.Y 1048576 _  _ ht2) ?_
  rintro _ S_ ⟨rfl, h2_⟩
  replace hh := hh.call0 h2_
  refine fg [6, 9] ?_
  refine seg 2 [2] [(2, bo v2)] [] (by kernel_rfl) (by kernel_rfl) ?_
  refine zn ?_
  refine AT_ret ?_
  have e_ := Option.some.inj h
  subst e_
  exact ⟨[bo v2], _, S_, (.of (by kernel_rfl)), D.le.refl _, Store.le.refl _, rfl, hh⟩
def cell_Right.j0 : Nat → Cell → Col → Bool → Option (Bool)
  | 0, _, _, _ => none
  | k + 1, a0, a1, x2 => if x2 = true then (if ((a0.Null == true) && ((a0.Int == 0) && ((a0.Text == []) && (((a0.At.X == 0) && ((a0.At.Y == 0) && true)) && true)))) = true then (some a1.Nullable) else (some false)) else (if a0.Null = true then (if ((a0.Null == true) && ((a0.Int == 0) && ((a0.Text == []) && (((a0.At.X == 0) && ((a0.At.Y == 0) && true)) && true)))) = true then (some a1.Nullable) else (some false)) else ((cell_plain.f k a0 a1.Type_).bind fun v2 => (if (!((a0.Null == v2.Null) && ((a0.Int == v2.Int) && ((a0.Text == v2.Text) && (((a0.At.X == v2.At.X) && ((a0.At.Y == v2.At.Y) && true)) && true))))) = true then (some false) else (if (decide ((a0.Text.length : Int) > 65536)) = true then (some false) else ((point_Right.f a0.At).bind fun v3 => (if v3 = true then (if (a1.Type_ != 1) = true then (some true) else (if (a0.Int == 0) = true then (some true) else (some (a0.Int == 1)))) else (some false)))))))
def cell_Right.f (k : Nat) (a0 : Cell) (a1 : Col) : Option (Bool) := if (decide (a1.Type_ < 0)) = true then (cell_Right.j0 k a0 a1 true) else (cell_Right.j0 k a0 a1 (decide (a1.Type_ ≥ 4)))
theorem cell_Right.mono_l : ∀ k, (∀ y0 y1 y2, LeO (cell_Right.j0 k y0 y1 y2) (cell_Right.j0 (k + 1) y0 y1 y2))
  | 0 => fun _ _ _ r h => (by simp only [cell_Right.j0] at h; cases h)
  | k + 1 => by
    have ih := cell_Right.mono_l k
    · intro y0 y1 y2
      rw [cell_Right.j0, cell_Right.j0]
      repeat' first
        | exact LeO.refl _
        | exact LeO.none _
        | exact ih _ _ _
        | exact cell_plain.mono _ _ _
        | refine LeO.ite ?_ ?_
        | refine LeO.bind ?_ (fun _ => ?_)
theorem cell_Right.mono (k : Nat) (a0 : Cell) (a1 : Col) : LeO (cell_Right.f k a0 a1) (cell_Right.f (k + 1) a0 a1) := by
  unfold cell_Right.f
  repeat' first
    | exact LeO.refl _
    | exact LeO.none _
    | exact (cell_Right.mono_l k) _ _ _
    | exact cell_plain.mono _ _ _
    | refine LeO.ite ?_ ?_
    | refine LeO.bind ?_ (fun _ => ?_)
theorem cell_Right.ok (k : Nat) (a0 : Cell) (a1 : Col) (S : Store) (r : Bool) (h : cell_Right.f k a0 a1 = some r) : ACalls Try.prog 42 [.ag (Cell.enc a0), .ag (Col.enc a1)] S (fun r_ S_ => r_ = bo r ∧ Own S [] S_ []) := by
  unfold cell_Right.f at h
  refine acalls_of Try.func42 rfl ?_
  have hh := Own.nil (S := S)
  refine AT_forget 0x3 (mkS 62 [(0, .ag (Cell.enc a0)), (1, .ag (Col.enc a1))]) (by kernel_rfl) ?_
  refine zsr ?_
  refine AOps_box_im (ds := (Cell.enc a0)) (tl_get rfl) rfl rfl (by kernel_rfl) ?_
  refine fg [1, 2] ?_
  refine AOps_box_im (ds := (Col.enc a1)) (tl_get rfl) rfl rfl (by kernel_rfl) ?_
  refine fg [2, 3] ?_
  refine seg 1 [2, 3] [] [] (by kernel_rfl) (by kernel_rfl) ?_
  refine zn ?_
  refine AT_seq ?_
  refine AT_block ?_
  refine AT_cutM 0x2c (fun sl_ S_ => ∃ (k_ : Nat), k_ ≤ k ∧ ∃ (x2 : Bool), LeL sl_ (mkS 62 [(2, .pt (Cell.enc a0)), (3, .pt (Col.enc a1)), (5, bo x2)]) ∧ cell_Right.j0 k_ a0 a1 x2 = some r ∧ Own S [] S_ []) ?_ ?_
  · refine AT_region ?_
    refine seg 4 [2, 3, 9] [(9, bo (decide (a1.Type_ < 0)))] [4, 5, 6, 7, 8] (by kernel_rfl) (by kernel_rfl) ?_
    refine cased 9 (decide (a1.Type_ < 0)) (by kernel_rfl) (fun hc10 => ?_) (fun hc10 => ?_)
    · rw [if_t hc10] at h
      refine seg 5 [2, 3, 5] [(5, bo true)] [] (by kernel_rfl) (by kernel_rfl) ?_
      refine zn ?_
      exact ⟨k, (by omega), true, (le_rf (by kernel_rfl)), h, hh⟩
    rw [if_f hc10] at h
    refine seg 5 [2, 3, 5] [(5, bo (decide (a1.Type_ ≥ 4)))] [] (by kernel_rfl) (by kernel_rfl) ?_
    refine zn ?_
    exact ⟨k, (by omega), decide (a1.Type_ ≥ 4), (le_rf (by kernel_rfl)), h, hh⟩
  clear h hh
  rintro sl_ S_ ⟨k', hk_, x2, hl_, h, hh⟩
  refine AT_weaken hl_ ?_
  obtain _ | k2 := k'
  · cases h
  rw [cell_Right.j0] at h
  refine AT_condS x2 (by kernel_rfl) (fun hc11 => ?_) (fun hc11 => ?_)
  · rw [if_t hc11] at h
    refine zsr ?_
    refine seg 4 [3, 17] [(17, bo ((a0.Null == true) && ((a0.Int == 0) && ((a0.Text == []) && (((a0.At.X == 0) && ((a0.At.Y == 0) && true)) && true)))))] [4, 5, 6, 7] (by kernel_rfl) (by kernel_rfl) ?_
    refine cased 17 ((a0.Null == true) && ((a0.Int == 0) && ((a0.Text == []) && (((a0.At.X == 0) && ((a0.At.Y == 0) && true)) && true)))) (by kernel_rfl) (fun hc12 => ?_) (fun hc12 => ?_)
    · rw [if_t hc12] at h
      refine seg 4 [4] [(4, bo a1.Nullable)] [] (by kernel_rfl) (by kernel_rfl) ?_
      refine zn ?_
      refine AT_ret ?_
      refine ablock_r ?_
      refine athen_r ?_
      have e_ := Option.some.inj h
      subst e_
      exact ⟨[bo a1.Nullable], _, S_, (.of (by kernel_rfl)), D.le.refl _, Store.le.refl _, rfl, hh⟩
    rw [if_f hc12] at h
    refine seg 4 [4] [(4, bo false)] [] (by kernel_rfl) (by kernel_rfl) ?_
    refine zn ?_
    refine AT_ret ?_
    refine ablock_r ?_
    refine athen_r ?_
    have e_ := Option.some.inj h
    subst e_
    exact ⟨[bo false], _, S_, (.of (by kernel_rfl)), D.le.refl _, Store.le.refl _, rfl, hh⟩
  rw [if_f hc11] at h
  refine zsr ?_
  refine seg 3 [2, 3, 21] [(21, bo a0.Null)] [] (by kernel_rfl) (by kernel_rfl) ?_
  refine zn ?_
  refine AT_condS a0.Null (by kernel_rfl) (fun hc13 => ?_) (fun hc13 => ?_)
  · rw [if_t hc13] at h
    refine zsr ?_
    refine seg 4 [3, 27] [(27, bo ((a0.Null == true) && ((a0.Int == 0) && ((a0.Text == []) && (((a0.At.X == 0) && ((a0.At.Y == 0) && true)) && true)))))] [4, 5, 6, 7] (by kernel_rfl) (by kernel_rfl) ?_
    refine cased 27 ((a0.Null == true) && ((a0.Int == 0) && ((a0.Text == []) && (((a0.At.X == 0) && ((a0.At.Y == 0) && true)) && true)))) (by kernel_rfl) (fun hc14 => ?_) (fun hc14 => ?_)
    · rw [if_t hc14] at h
      refine seg 4 [4] [(4, bo a1.Nullable)] [] (by kernel_rfl) (by kernel_rfl) ?_
      refine zn ?_
      refine AT_ret ?_
      refine ablock_r ?_
      refine athen_r ?_
      have e_ := Option.some.inj h
      subst e_
      exact ⟨[bo a1.Nullable], _, S_, (.of (by kernel_rfl)), D.le.refl _, Store.le.refl _, rfl, hh⟩
    rw [if_f hc14] at h
    refine seg 4 [4] [(4, bo false)] [] (by kernel_rfl) (by kernel_rfl) ?_
    refine zn ?_
    refine AT_ret ?_
    refine ablock_r ?_
    refine athen_r ?_
    have e_ := Option.some.inj h
    subst e_
    exact ⟨[bo false], _, S_, (.of (by kernel_rfl)), D.le.refl _, Store.le.refl _, rfl, hh⟩
  rw [if_f hc13] at h
  refine AT_seq ?_
  refine AT_draw [4] 13 (fun _ => True) (by kernel_rfl) ?_
  refine aseg 13 [] [2, 3] [] #[false, false, false, false, false, false, false, false, false, false, false, false, false] (by kernel_rfl) (by kernel_rfl) ?_
  refine aseg 9 [0, 1, 2, 3] [2, 3, 32, 33, 35] [(32, .ag (Cell.enc a0)), (33, .ag (Cell.enc a0)), (35, i64 a1.Type_)] #[true, true, true, true, false, false, false, false, false, false, false, false, false] (by kernel_rfl) (by kernel_rfl) ?_
  refine AAny_eff (fuel := 8) 4 (.inr trivial) (tl_get rfl) (by kernel_rfl) (by kernel_rfl) (by kernel_rfl) ?_
  obtain ⟨v2, ht2, h⟩ := bs h
  refine AOps_callR _ [.ag (Cell.enc a0), i64 a1.Type_] (tl_get rfl) rfl rfl rfl rfl Try.func52 (by decide) rfl ((.cons (D.le.refl _) (.cons (D.le.refl _) (.nil)))) (cell_plain.ok _ a0 a1.Type_ _  _ ht2) ?_
  rintro _ S_ ⟨rfl, h2_⟩
  replace hh := hh.call0 h2_
  refine AOps_end ⟨rfl, _, rfl, ?_⟩; refine afg [2, 3, 32, 36] #[true, true, true, true, true, false, false, false, false, false, false, false, false] (by kernel_rfl) ?_
  refine aseg 6 [5, 6] [2, 3, 38] [(38, bo (!((a0.Null == v2.Null) && ((a0.Int == v2.Int) && ((a0.Text == v2.Text) && (((a0.At.X == v2.At.X) && ((a0.At.Y == v2.At.Y) && true)) && true))))))] #[true, true, true, true, true, true, true, false, false, false, false, false, false] (by kernel_rfl) (by kernel_rfl) ?_
  refine acased 38 (!((a0.Null == v2.Null) && ((a0.Int == v2.Int) && ((a0.Text == v2.Text) && (((a0.At.X == v2.At.X) && ((a0.At.Y == v2.At.Y) && true)) && true))))) (by kernel_rfl) (fun hc15 => ?_) (fun hc15 => ?_)
  · rw [if_t hc15] at h
    refine aseg 0 [7, 8, 9, 10, 11, 12] [2, 3, 31] [(31, bo true)] #[true, true, true, true, true, true, true, true, true, true, true, true, true] (by kernel_rfl) (by kernel_rfl) ?_
    refine AAny_end (.inr trivial) (by kernel_rfl) ?_
    refine athen_n ?_
    refine AT_cond_t (by kernel_rfl) ?_
    refine zsr ?_
    refine seg 1 [4] [(4, bo false)] [] (by kernel_rfl) (by kernel_rfl) ?_
    refine zn ?_
    refine AT_ret ?_
    refine ablock_r ?_
    refine athen_r ?_
    have e_ := Option.some.inj h
    subst e_
    exact ⟨[bo false], _, S_, (.of (by kernel_rfl)), D.le.refl _, Store.le.refl _, rfl, hh⟩
  rw [if_f hc15] at h
  refine aseg 0 [7, 8, 9, 10, 11, 12] [2, 3, 31] [(31, bo (decide ((a0.Text.length : Int) > 65536)))] #[true, true, true, true, true, true, true, true, true, true, true, true, true] (by kernel_rfl) (by kernel_rfl) ?_
  refine AAny_end (.inr trivial) (by kernel_rfl) ?_
  refine athen_n ?_
  refine AT_condS (decide ((a0.Text.length : Int) > 65536)) (by kernel_rfl) (fun hc16 => ?_) (fun hc16 => ?_)
  · rw [if_t hc16] at h
    refine zsr ?_
    refine seg 1 [4] [(4, bo false)] [] (by kernel_rfl) (by kernel_rfl) ?_
    refine zn ?_
    refine AT_ret ?_
    refine ablock_r ?_
    refine athen_r ?_
    have e_ := Option.some.inj h
    subst e_
    exact ⟨[bo false], _, S_, (.of (by kernel_rfl)), D.le.refl _, Store.le.refl _, rfl, hh⟩
  rw [if_f hc16] at h
  refine AT_skip ?_
  refine ablock_n ?_
  refine athen_n ?_
  refine zsr ?_
  refine seg 2 [2, 3, 45] [(45, .ag (Point.enc a0.At))] [2, 3, 4, 5, 6, 7, 8, 9, 10, 11, 12, 13, 14, 15, 16, 17, 18] (by kernel_rfl) (by kernel_rfl) ?_
  obtain ⟨v3, ht3, h⟩ := bs h
  refine AOps_callR _ [.ag (Point.enc a0.At)] (tl_get rfl) rfl rfl rfl rfl Try.func53 (by decide) rfl ((.cons (D.le.refl _) (.nil))) (point_Right.ok a0.At _  _ ht3) ?_
  rintro _ S_ ⟨rfl, h2_⟩
  replace hh := hh.call0 h2_
  refine fg [2, 3, 46] ?_
  refine AOps_seg 1 0x80000000000c (mkS 62 [(2, .pt (Cell.enc a0)), (3, .pt (Col.enc a1)), (47, bo v3)]) none [4, 5, 6, 7, 8, 9, 10, 11, 12, 13, 14, 15, 16, 17, 18] (by kernel_rfl) (by kernel_rfl) trivial ?_
  refine casedR 47 v3 (by kernel_rfl) (fun hc17 => ?_) (fun hc17 => ?_)
  · rw [if_f hc17] at h
    refine seg 15 [4] [(4, bo false)] [] (by kernel_rfl) (by kernel_rfl) ?_
    refine zn ?_
    refine AT_ret ?_
    have e_ := Option.some.inj h
    subst e_
    exact ⟨[bo false], _, S_, (.of (by kernel_rfl)), D.le.refl _, Store.le.refl _, rfl, hh⟩
  rw [if_t hc17] at h
  refine seg 4 [2, 47, 51] [(51, bo (a1.Type_ != 1))] [8, 9, 10, 11, 12, 13, 14, 15, 16, 17, 18] (by kernel_rfl) (by kernel_rfl) ?_
  refine cased 51 (a1.Type_ != 1) (by kernel_rfl) (fun hc18 => ?_) (fun hc18 => ?_)
  · rw [if_t hc18] at h
    refine seg 11 [4] [(4, bo true)] [] (by kernel_rfl) (by kernel_rfl) ?_
    refine zn ?_
    refine AT_ret ?_
    have e_ := Option.some.inj h
    subst e_
    exact ⟨[bo true], _, S_, (.of (by kernel_rfl)), D.le.refl _, Store.le.refl _, rfl, hh⟩
  rw [if_f hc18] at h
  refine seg 5 [2, 47, 56] [(56, bo (a0.Int == 0))] [13, 14, 15, 16, 17, 18] (by kernel_rfl) (by kernel_rfl) ?_
  refine cased 56 (a0.Int == 0) (by kernel_rfl) (fun hc19 => ?_) (fun hc19 => ?_)
  · rw [if_t hc19] at h
    refine seg 6 [4] [(4, bo true)] [] (by kernel_rfl) (by kernel_rfl) ?_
    refine zn ?_
    refine AT_ret ?_
    have e_ := Option.some.inj h
    subst e_
    exact ⟨[bo true], _, S_, (.of (by kernel_rfl)), D.le.refl _, Store.le.refl _, rfl, hh⟩
  rw [if_f hc19] at h
  refine seg 6 [4] [(4, bo (a0.Int == 1))] [] (by kernel_rfl) (by kernel_rfl) ?_
  refine zn ?_
  refine AT_ret ?_
  have e_ := Option.some.inj h
  subst e_
  exact ⟨[bo (a0.Int == 1)], _, S_, (.of (by kernel_rfl)), D.le.refl _, Store.le.refl _, rfl, hh⟩
def cmp_isNaN_int.f (a0 : Int) : Option (Bool) := some (a0 != a0)
theorem cmp_isNaN_int.ok (a0 : Int) (S : Store) (r : Bool) (h : cmp_isNaN_int.f a0 = some r) : ACalls Try.prog 70 [i64 a0] S (fun r_ S_ => r_ = bo r ∧ Own S [] S_ []) := by
  unfold cmp_isNaN_int.f at h
  refine acalls_of Try.func70 rfl ?_
  have hh := Own.nil (S := S)
  refine AT_forget 0x1 (mkS 6 [(0, i64 a0)]) (by kernel_rfl) ?_
  refine zsr ?_
  refine seg 1 [0] [] [] (by kernel_rfl) (by kernel_rfl) ?_
  refine znsr ?_
  refine seg 4 [2] [(2, bo (a0 != a0))] [] (by kernel_rfl) (by kernel_rfl) ?_
  refine zn ?_
  refine AT_ret ?_
  have e_ := Option.some.inj h
  subst e_
  exact ⟨[bo (a0 != a0)], _, S, (.of (by kernel_rfl)), D.le.refl _, Store.le.refl _, rfl, hh⟩
def cmp_Compare_int.f (a0 : Int) (a1 : Int) : Option (Int) := (cmp_isNaN_int.f a0).bind fun v1 => ((cmp_isNaN_int.f a1).bind fun v2 => (if v1 = true then (if v2 = true then (some 0) else (some (-1))) else (if v2 = true then (some 1) else (if (decide (a0 < a1)) = true then (some (-1)) else (if (decide (a0 > a1)) = true then (some 1) else (some 0))))))
theorem cmp_Compare_int.ok (a0 : Int) (a1 : Int) (S : Store) (r : Int) (h : cmp_Compare_int.f a0 a1 = some r) : ACalls Try.prog 54 [i64 a0, i64 a1] S (fun r_ S_ => r_ = i64 r ∧ Own S [] S_ []) := by
  unfold cmp_Compare_int.f at h
  refine acalls_of Try.func54 rfl ?_
  have hh := Own.nil (S := S)
  refine AT_forget 0x3 (mkS 20 [(0, i64 a0), (1, i64 a1)]) (by kernel_rfl) ?_
  refine zsr ?_
  refine seg 1 [0, 1] [] [] (by kernel_rfl) (by kernel_rfl) ?_
  refine znsr ?_
  refine seg 1 [0, 1, 7] [(7, i64 a0)] [1, 2] (by kernel_rfl) (by kernel_rfl) ?_
  obtain ⟨v1, ht1, h⟩ := bs h
  refine AOps_callR _ [i64 a0] (tl_get rfl) rfl rfl rfl rfl Try.func70 (by decide) rfl ((.cons (D.le.refl _) (.nil))) (cmp_isNaN_int.ok a0 _  _ ht1) ?_
  rintro _ S_ ⟨rfl, h2_⟩
  replace hh := hh.call0 h2_
  refine fg [0, 1, 8] ?_
  refine seg 1 [0, 1, 5] [(5, bo v1)] [] (by kernel_rfl) (by kernel_rfl) ?_
  refine znsr ?_
  refine seg 1 [0, 1, 5, 9] [(9, i64 a1)] [1, 2] (by kernel_rfl) (by kernel_rfl) ?_
  obtain ⟨v2, ht2, h⟩ := bs h
  refine AOps_callR _ [i64 a1] (tl_get rfl) rfl rfl rfl rfl Try.func70 (by decide) rfl ((.cons (D.le.refl _) (.nil))) (cmp_isNaN_int.ok a1 _  _ ht2) ?_
  rintro _ S_ ⟨rfl, h2_⟩
  replace hh := hh.call0 h2_
  refine fg [0, 1, 5, 10] ?_
  refine seg 1 [0, 1, 5, 6] [(6, bo v2)] [] (by kernel_rfl) (by kernel_rfl) ?_
  refine zn ?_
  refine AT_seq ?_
  refine zsr ?_
  refine seg 1 [0, 1, 6, 11] [(11, bo v1)] [] (by kernel_rfl) (by kernel_rfl) ?_
  refine zn ?_
  refine AT_condS v1 (by kernel_rfl) (fun hc1 => ?_) (fun hc1 => ?_)
  · rw [if_t hc1] at h
    refine AT_seq ?_
    refine zsr ?_
    refine AOps_seg 1 0x1000 (mkS 20 [(12, bo v2)]) none [] (by kernel_rfl) (by kernel_rfl) trivial ?_
    refine zn ?_
    refine AT_condS v2 (by kernel_rfl) (fun hc2 => ?_) (fun hc2 => ?_)
    · rw [if_t hc2] at h
      refine zsr ?_
      refine seg 1 [4] [(4, i64 0)] [] (by kernel_rfl) (by kernel_rfl) ?_
      refine zn ?_
      refine AT_ret ?_
      refine athen_r ?_
      refine athen_r ?_
      have e_ := Option.some.inj h
      subst e_
      exact ⟨[i64 0], _, S_, (.of (by kernel_rfl)), D.le.refl _, Store.le.refl _, rfl, hh⟩
    rw [if_f hc2] at h
    refine zkn ?_
    refine zsr ?_
    refine seg 1 [4] [(4, i64 (-1))] [] (by kernel_rfl) (by kernel_rfl) ?_
    refine zn ?_
    refine AT_ret ?_
    refine athen_r ?_
    have e_ := Option.some.inj h
    subst e_
    exact ⟨[i64 (-1)], _, S_, (.of (by kernel_rfl)), D.le.refl _, Store.le.refl _, rfl, hh⟩
  rw [if_f hc1] at h
  refine zkn ?_
  refine AT_seq ?_
  refine zsr ?_
  refine AOps_seg 1 0x2003 (mkS 20 [(0, i64 a0), (1, i64 a1), (13, bo v2)]) none [] (by kernel_rfl) (by kernel_rfl) trivial ?_
  refine zn ?_
  refine AT_condS v2 (by kernel_rfl) (fun hc3 => ?_) (fun hc3 => ?_)
  · rw [if_t hc3] at h
    refine zsr ?_
    refine seg 1 [4] [(4, i64 1)] [] (by kernel_rfl) (by kernel_rfl) ?_
    refine zn ?_
    refine AT_ret ?_
    refine athen_r ?_
    have e_ := Option.some.inj h
    subst e_
    exact ⟨[i64 1], _, S_, (.of (by kernel_rfl)), D.le.refl _, Store.le.refl _, rfl, hh⟩
  rw [if_f hc3] at h
  refine zkn ?_
  refine AT_seq ?_
  refine zsr ?_
  refine seg 3 [0, 1, 16] [(16, bo (decide (a0 < a1)))] [] (by kernel_rfl) (by kernel_rfl) ?_
  refine zn ?_
  refine AT_condS (decide (a0 < a1)) (by kernel_rfl) (fun hc4 => ?_) (fun hc4 => ?_)
  · rw [if_t hc4] at h
    refine zsr ?_
    refine seg 1 [4] [(4, i64 (-1))] [] (by kernel_rfl) (by kernel_rfl) ?_
    refine zn ?_
    refine AT_ret ?_
    refine athen_r ?_
    have e_ := Option.some.inj h
    subst e_
    exact ⟨[i64 (-1)], _, S_, (.of (by kernel_rfl)), D.le.refl _, Store.le.refl _, rfl, hh⟩
  rw [if_f hc4] at h
  refine zkn ?_
  refine AT_seq ?_
  refine zsr ?_
  refine seg 3 [19] [(19, bo (decide (a0 > a1)))] [] (by kernel_rfl) (by kernel_rfl) ?_
  refine zn ?_
  refine AT_condS (decide (a0 > a1)) (by kernel_rfl) (fun hc5 => ?_) (fun hc5 => ?_)
  · rw [if_t hc5] at h
    refine zsr ?_
    refine seg 1 [4] [(4, i64 1)] [] (by kernel_rfl) (by kernel_rfl) ?_
    refine zn ?_
    refine AT_ret ?_
    refine athen_r ?_
    have e_ := Option.some.inj h
    subst e_
    exact ⟨[i64 1], _, S_, (.of (by kernel_rfl)), D.le.refl _, Store.le.refl _, rfl, hh⟩
  rw [if_f hc5] at h
  refine zkn ?_
  refine zsr ?_
  refine seg 1 [4] [(4, i64 0)] [] (by kernel_rfl) (by kernel_rfl) ?_
  refine zn ?_
  refine AT_ret ?_
  have e_ := Option.some.inj h
  subst e_
  exact ⟨[i64 0], _, S_, (.of (by kernel_rfl)), D.le.refl _, Store.le.refl _, rfl, hh⟩
def internal_bytealg_CompareString.f (a0 : (List UInt8)) (a1 : (List UInt8)) : Option (Int) := some (cmpS a0 a1)
theorem internal_bytealg_CompareString.ok (a0 : (List UInt8)) (a1 : (List UInt8)) (S : Store) (r : Int) (h : internal_bytealg_CompareString.f a0 a1 = some r) : ACalls Try.prog 71 [str a0, str a1] S (fun r_ S_ => r_ = i64 r ∧ Own S [] S_ []) := by
  unfold internal_bytealg_CompareString.f at h
  refine acalls_of Try.func71 rfl ?_
  have hh := Own.nil (S := S)
  refine AT_forget 0x3 (mkS 8 [(0, str a0), (1, str a1)]) (by kernel_rfl) ?_
  refine zsr ?_
  refine seg 1 [0, 1] [] [] (by kernel_rfl) (by kernel_rfl) ?_
  refine znsr ?_
  refine seg 2 [5, 6] [(5, str a0), (6, str a1)] [2, 3] (by kernel_rfl) (by kernel_rfl) ?_
  refine AOps_cmp a0 a1 (tl_get rfl) rfl rfl rfl rfl Try.func80 (by kernel_rfl) rfl rfl rfl rfl rfl ?_
  refine fg [7] ?_
  refine seg 1 [4] [(4, i64 (cmpS a0 a1))] [] (by kernel_rfl) (by kernel_rfl) ?_
  refine zn ?_
  refine AT_ret ?_
  have e_ := Option.some.inj h
  subst e_
  exact ⟨[i64 (cmpS a0 a1)], _, S, (.of (by kernel_rfl)), D.le.refl _, Store.le.refl _, rfl, hh⟩
def strings_Compare.f (a0 : (List UInt8)) (a1 : (List UInt8)) : Option (Int) := (internal_bytealg_CompareString.f a0 a1).bind fun v1 => (some v1)
theorem strings_Compare.ok (a0 : (List UInt8)) (a1 : (List UInt8)) (S : Store) (r : Int) (h : strings_Compare.f a0 a1 = some r) : ACalls Try.prog 55 [str a0, str a1] S (fun r_ S_ => r_ = i64 r ∧ Own S [] S_ []) := by
  unfold strings_Compare.f at h
  refine acalls_of Try.func55 rfl ?_
  have hh := Own.nil (S := S)
  refine AT_forget 0x3 (mkS 8 [(0, str a0), (1, str a1)]) (by kernel_rfl) ?_
  refine zsr ?_
  refine seg 1 [0, 1] [] [] (by kernel_rfl) (by kernel_rfl) ?_
  refine znsr ?_
  refine seg 2 [5, 6] [(5, str a0), (6, str a1)] [2, 3] (by kernel_rfl) (by kernel_rfl) ?_
  obtain ⟨v1, ht1, h⟩ := bs h
  refine AOps_callR _ [str a0, str a1] (tl_get rfl) rfl rfl rfl rfl Try.func71 (by decide) rfl ((.cons (D.le.refl _) (.cons (D.le.refl _) (.nil)))) (internal_bytealg_CompareString.ok a0 a1 _  _ ht1) ?_
  rintro _ S_ ⟨rfl, h2_⟩
  replace hh := hh.call0 h2_
  refine fg [7] ?_
  refine seg 1 [4] [(4, i64 v1)] [] (by kernel_rfl) (by kernel_rfl) ?_
  refine zn ?_
  refine AT_ret ?_
  have e_ := Option.some.inj h
  subst e_
  exact ⟨[i64 v1], _, S_, (.of (by kernel_rfl)), D.le.refl _, Store.le.refl _, rfl, hh⟩
def point_Norm.f (a0 : Point) : Option (Int) := if (a0.X).natAbs < 2 ^ 53 then (if (a0.Y).natAbs < 2 ^ 53 then (if (a0.X : Int).natAbs < 2 ^ 26 ∧ (a0.Y : Int).natAbs < 2 ^ 26 ∧ (a0.X : Int).natAbs < 2 ^ 26 ∧ ((-a0.Y) : Int).natAbs < 2 ^ 26 then (if -9223372036854775808 ≤ (a0.X * a0.X - a0.Y * (-a0.Y)) ∧ (a0.X * a0.X - a0.Y * (-a0.Y)) ≤ 9223372036854775807 then (some (a0.X * a0.X - a0.Y * (-a0.Y))) else none) else none) else none) else none
theorem point_Norm.ok (a0 : Point) (S : Store) (r : Int) (h : point_Norm.f a0 = some r) : ACalls Try.prog 73 [.ag (Point.enc a0)] S (fun r_ S_ => r_ = i64 r ∧ Own S [] S_ []) := by
  unfold point_Norm.f at h
  refine acalls_of Try.func73 rfl ?_
  have hh := Own.nil (S := S)
  refine AT_forget 0x1 (mkS 16 [(0, .ag (Point.enc a0))]) (by kernel_rfl) ?_
  refine zsr ?_
  refine AOps_box_im (ds := (Point.enc a0)) (tl_get rfl) rfl rfl (by kernel_rfl) ?_
  refine fg [1] ?_
  refine seg 1 [1] [] [] (by kernel_rfl) (by kernel_rfl) ?_
  refine znsr ?_
  refine seg 1 [4] [(4, .ag (Point.enc a0))] [1, 2] (by kernel_rfl) (by kernel_rfl) ?_
  refine AOps_inline [.ag (Point.enc a0)] (tl_get rfl) rfl rfl rfl (by kernel_rfl) Try.func81 (by decide) rfl rfl ?_
  refine AT_forget 0x1 (mkS 10 [(0, .ag (Point.enc a0))]) (by kernel_rfl) ?_
  refine zsr ?_
  refine AOps_box_im (ds := (Point.enc a0)) (tl_get rfl) rfl rfl (by kernel_rfl) ?_
  refine fg [1] ?_
  refine seg 1 [1] [] [] (by kernel_rfl) (by kernel_rfl) ?_
  refine znsr ?_
  refine seg 2 [1, 4] [(4, i64 a0.X)] [2, 3, 4, 5, 6, 7] (by kernel_rfl) (by kernel_rfl) ?_
  obtain ⟨hl1, h⟩ := is h
  refine AOps_i2f (tl_get rfl) rfl rfl (by kernel_rfl) (by kernel_rfl) rfl hl1 ?_
  refine fg [1, 5] ?_
  refine seg 2 [5, 7] [(7, i64 a0.Y)] [5, 6, 7] (by kernel_rfl) (by kernel_rfl) ?_
  obtain ⟨hl2, h⟩ := is h
  refine AOps_i2f (tl_get rfl) rfl rfl (by kernel_rfl) (by kernel_rfl) rfl hl2 ?_
  refine fg [5, 8] ?_
  refine AOps_complex (tl_get rfl) rfl rfl rfl rfl ?_
  refine fg [9] ?_
  refine seg 1 [2] [(2, .cx a0.X a0.Y)] [] (by kernel_rfl) (by kernel_rfl) ?_
  refine zn ?_
  refine AT_ret ?_
  refine ⟨[.cx a0.X a0.Y], .cx a0.X a0.Y, S, (.of (by kernel_rfl)), D.le.refl _, Store.le.refl _, ?_⟩
  refine fg [5] ?_
  refine seg 1 [3] [(3, .cx a0.X a0.Y)] [] (by kernel_rfl) (by kernel_rfl) ?_
  refine znsr ?_
  refine seg 2 [3, 6, 7] [(6, .cx a0.X a0.Y), (7, .cx a0.X a0.Y)] [2, 3, 4, 5, 6, 7, 8, 9, 10] (by kernel_rfl) (by kernel_rfl) ?_
  refine AOps_real (tl_get rfl) rfl rfl rfl ?_
  refine fg [3, 6, 8] ?_
  refine seg 1 [6, 8, 9] [(9, .cx a0.X a0.Y)] [4, 5, 6, 7, 8, 9, 10] (by kernel_rfl) (by kernel_rfl) ?_
  refine AOps_imag (tl_get rfl) rfl rfl rfl ?_
  refine AOps_forget 0x540 (mkS 16 [(6, .cx a0.X a0.Y), (8, .fl a0.X), (10, .fl a0.Y)]) (by kernel_rfl) ?_
  refine AOps_fneg (tl_get rfl) rfl rfl rfl ?_
  refine fg [6, 8, 11] ?_
  refine AOps_complex (tl_get rfl) rfl rfl rfl rfl ?_
  refine fg [6, 12] ?_
  obtain ⟨hl8, h⟩ := is h
  refine AOps_cmul (tl_get rfl) rfl rfl rfl rfl hl8 ?_
  refine fg [13] ?_
  refine AOps_real (tl_get rfl) rfl rfl rfl ?_
  refine fg [14] ?_
  obtain ⟨hl10, h⟩ := is h
  refine AOps_f2i (tl_get rfl) rfl rfl (by kernel_rfl) (by kernel_rfl) rfl hl10 ?_
  refine fg [15] ?_
  refine seg 1 [2] [(2, i64 (a0.X * a0.X - a0.Y * (-a0.Y)))] [] (by kernel_rfl) (by kernel_rfl) ?_
  refine zn ?_
  refine AT_ret ?_
  have e_ := Option.some.inj h
  subst e_
  exact ⟨[i64 (a0.X * a0.X - a0.Y * (-a0.Y))], _, S, (.of (by kernel_rfl)), D.le.refl _, Store.le.refl _, rfl, hh⟩
end Go.Proofs.Ytfaojkajlpojlaa.Abs
