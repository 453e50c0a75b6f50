/- Shorter words for the printed walks: slots told by what changes. -/
import Derived.Test.YtfaojkajlpojlaaAbsX
namespace Go.Proofs.Ytfaojkajlpojlaa.Abs
open Go Go.RowKit

variable {P : Program} {Q Q1 Q2 : Exit → List D → Store → Prop} {sl : List D} {S : Store} {ops ops2 : Array Oper} {N : Nat} {ps : List (Nat × D)} {l l' : List Nat}

def hasK : List (Nat × D) → Nat → Bool
  | [], _ => false
  | p :: r, i => match Nat.beq p.1 i with
    | true => true
    | false => hasK r i
def memN : List Nat → Nat → Bool
  | [], _ => false
  | p :: r, i => match Nat.beq p i with
    | true => true
    | false => memN r i
def maskN : List Nat → Nat
  | [] => 0
  | i :: r => 2 ^ i ||| maskN r
theorem maskN_bit : ∀ (L : List Nat) (i : Nat), (maskN L).testBit i = memN L i
  | [], i => by simp [maskN, memN]
  | j :: r, i => by
    rw [maskN, Nat.testBit_or, Nat.testBit_two_pow, maskN_bit r i, memN]
    by_cases e : j = i
    · subst e; simp
    · have : Nat.beq j i = false := by cases h : Nat.beq j i <;> simp_all
      simp [e, this]
def keepP (m : List Nat) (u : List (Nat × D)) : List (Nat × D) → List (Nat × D)
  | [] => []
  | p :: ps => match memN m p.1 with
    | false => keepP m u ps
    | true => match hasK u p.1 with
      | true => keepP m u ps
      | false => p :: keepP m u ps
def updS (ps : List (Nat × D)) (m : List Nat) : List (Nat × D) → List (Nat × D)
  | u => appP u (keepP m u ps)
where appP : List (Nat × D) → List (Nat × D) → List (Nat × D)
  | [], l => l
  | p :: u, l => p :: appP u l
theorem appP_eq : ∀ u l : List (Nat × D), updS.appP u l = u ++ l
  | [], _ => rfl
  | p :: u, l => by simp only [updS.appP, List.cons_append, appP_eq u l]
theorem hasK_eq : ∀ (u : List (Nat × D)) (i : Nat), hasK u i = u.any fun q => q.1 == i
  | [], _ => rfl
  | p :: u, i => by
    have hb : Nat.beq p.1 i = (p.1 == i) := by rw [Bool.eq_iff_iff, Nat.beq_eq, beq_iff_eq]
    simp only [hasK, List.any_cons, ← hasK_eq u i, hb]
    cases (p.1 == i) <;> rfl
theorem keepP_eq (m : List Nat) (u : List (Nat × D)) : ∀ ps : List (Nat × D), keepP m u ps = ps.filter fun p => memN m p.1 && !u.any fun q => q.1 == p.1
  | [] => rfl
  | p :: ps => by
    simp only [keepP, List.filter_cons, ← keepP_eq m u ps, hasK_eq]
    cases memN m p.1 <;> cases (u.any fun q => q.1 == p.1) <;> rfl
theorem updS_eq (ps : List (Nat × D)) (m : List Nat) (u : List (Nat × D)) : updS ps m u = u ++ ps.filter fun p => memN m p.1 && !u.any fun q => q.1 == p.1 := by
  unfold updS; rw [appP_eq, keepP_eq]
theorem look_upd (m : List Nat) (u : List (Nat × D)) : ∀ (ps : List (Nat × D)) (i : Nat), (memN m i = true ∨ u.any (fun q => q.1 == i) = true) → look (updS ps m u) i = look (u ++ ps) i := by
  have base : ∀ (ps : List (Nat × D)) (i : Nat), memN m i = true → u.any (fun q => q.1 == i) = false → look (ps.filter fun p => memN m p.1 && !u.any fun q => q.1 == p.1) i = look ps i := by
    intro ps i hm hu
    induction ps with
    | nil => rfl
    | cons p ps ih =>
      by_cases e : i = p.1
      · subst e
        simp only [List.filter_cons, hm, hu, Bool.not_false, Bool.and_self, if_true, look, beq_self_eq_true]
      · have e' : (i == p.1) = false := by simpa using e
        rw [List.filter_cons]
        split
        · simp only [look, e', Bool.false_eq_true, if_false]; exact ih
        · rw [ih]; simp only [look, e', Bool.false_eq_true, if_false]
  have app : ∀ (u a b : List (Nat × D)) (i : Nat), (u.any (fun q => q.1 == i) = false → look a i = look b i) → look (u ++ a) i = look (u ++ b) i := by
    intro u a b i h
    induction u with
    | nil => exact h rfl
    | cons p u ih =>
      simp only [List.cons_append, look]
      by_cases e : (i == p.1) = true
      · simp [e]
      · have e1 : (i == p.1) = false := by simpa using e
        have e2 : (p.1 == i) = false := by simp only [beq_eq_false_iff_ne, ne_eq] at e1 ⊢; exact fun x => e1 x.symm
        simp only [e1, Bool.false_eq_true, if_false]
        exact ih (fun hu => h (by simp [List.any_cons, e2, hu]))
  intro ps i h
  rw [updS_eq]
  exact app u _ _ i (fun hu => base ps i (h.resolve_right (by rw [hu]; decide)) hu)
theorem look_none {u : List (Nat × D)} {i : Nat} : ∀ {ps : List (Nat × D)}, (∀ p ∈ ps, p.1 ≠ i) → look ps i = .any
  | [], _ => rfl
  | p :: ps, h => by
    have e' : (i == p.1) = false := by simpa using fun e => h p (by simp) e.symm
    simp only [look, e', Bool.false_eq_true, if_false]
    exact look_none (u := u) fun q hq => h q (List.mem_cons_of_mem _ hq)
theorem set_mkS (t : Nat) (d : D) : (mkS N ps).set t d = mkS N ((t, d) :: ps) := by
  apply List.ext_getElem?
  intro j
  rw [List.getElem?_set]
  unfold mkS
  simp only [List.length_map, List.length_range, List.getElem?_map]
  rcases Nat.lt_or_ge j N with hj | hj
  · rw [List.getElem?_range hj]
    by_cases e : t = j
    · subst e; simp [hj, look]
    · have e' : (j == t) = false := by simpa using fun x => e x.symm
      simp [e, look, e']
      intro e3; exact absurd e3.symm e
  · rw [List.getElem?_eq_none (by simpa using hj)]
    by_cases e : t = j
    · subst e; simp [Nat.not_lt.2 hj]
    · simp [e]
theorem upd_le (m : List Nat) (t : Nat) (d : D) : LeL (mkS N ((t, d) :: ps)) (mkS N (updS ps m [(t, d)])) := by
  unfold mkS
  refine map_le (fun i => ?_) _
  by_cases h : memN m i = true ∨ ([(t, d)] : List (Nat × D)).any (fun q => q.1 == i) = true
  · rw [look_upd m [(t, d)] ps i h]; exact D.le.refl _
  · have h1 : memN m i = false := by cases hm : memN m i <;> simp_all
    have h2 : ¬ (t == i) = true := fun e => h (.inr (by simp [e]))
    rw [show look (updS ps m [(t, d)]) i = .any from look_none (u := []) (fun p hp e => by
      rw [updS_eq] at hp
      rcases List.mem_append.1 hp with hp | hp
      · rw [List.mem_singleton.1 hp] at e; exact h2 (by simpa using e)
      · have := (List.mem_filter.1 hp).2
        rw [e, h1] at this
        cases this)]
    exact D.le_any _
theorem keep_le (m : List Nat) : LeL (mkS N ps) (mkS N (updS ps m [])) := by
  unfold mkS
  refine map_le (fun i => ?_) _
  by_cases h : memN m i = true
  · rw [look_upd m [] ps i (.inl h)]; exact D.le.refl _
  · rw [show look (updS ps m []) i = .any from look_none (u := []) (fun p hp e => by
      simp only [updS_eq, List.nil_append, List.mem_filter, List.any_nil, Bool.not_false, Bool.and_true] at hp
      rw [e] at hp
      exact h hp.2)]
    exact D.le_any _
theorem seg (n : Nat) (m : List Nat) (u : List (Nat × D)) (l' : List Nat) (h : aStep P ops (l.take n) (maskN m) (mkS N ps) = (mkS N (updS ps m u), none, [])) (hl : l.drop n = l') (k : AOps P ops Q l' (mkS N (updS ps m u)) S) : AOps P ops Q l (mkS N ps) S := AOps_seg n (maskN m) _ none l' h hl trivial k
theorem segc (n : Nat) (m : List Nat) (u : List (Nat × D)) (φ : Prop) (l' : List Nat) (h : aStep P ops (l.take n) (maskN m) (mkS N ps) = (mkS N (updS ps m u), some φ, [])) (hl : l.drop n = l') (hφ : φ) (k : AOps P ops Q l' (mkS N (updS ps m u)) S) : AOps P ops Q l (mkS N ps) S := AOps_seg n (maskN m) _ (some φ) l' h hl hφ k
theorem fg {t : Nat} {d : D} (m : List Nat) (k : AOps P ops Q l (mkS N (updS ps m [(t, d)])) S) : AOps P ops Q l (aput (mkS N ps) (some t) d) S := by
  simp only [aput]; rw [set_mkS]; exact AOps_weaken (upd_le m t d) k
theorem fg0 {d : D} (m : List Nat) (k : AOps P ops Q l (mkS N (updS ps m [])) S) : AOps P ops Q l (aput (mkS N ps) none d) S := AOps_weaken (keep_le m) k
theorem tod (i : Nat) (d d' : D) (h : look ps i = d) (e : d = d') (k : AOps P ops Q l (mkS N ((i, d') :: ps)) S) : AOps P ops Q l (mkS N ps) S := by
  have : mkS N ((i, d') :: ps) = mkS N ps := by
    unfold mkS
    congr 1
    funext j
    simp only [look]
    split
    · rename_i e2; rw [beq_iff_eq.1 e2, h, e]
    · rfl
  rw [← this]; exact k
theorem cased (i : Nat) (b : Bool) (hi : look ps i = bo b) (h1 : b = true → AOps P ops Q l (mkS N ((i, bo true) :: ps)) S) (h2 : b = false → AOps P ops Q l (mkS N ((i, bo false) :: ps)) S) : AOps P ops Q l (mkS N ps) S := by
  cases b
  · exact tod i _ _ hi rfl (h2 rfl)
  · exact tod i _ _ hi rfl (h1 rfl)
theorem casedR (i : Nat) (b : Bool) (hi : look ps i = bo b) (h2 : b = false → AOps P ops Q l (mkS N ((i, bo false) :: ps)) S) (h1 : b = true → AOps P ops Q l (mkS N ((i, bo true) :: ps)) S) : AOps P ops Q l (mkS N ps) S := cased i b hi h1 h2
theorem AT_condR {c : Operand} {x y : Code} (t : Bool) (hc : aval sl c = .lit (.bool t)) (h2 : t = false → AT P y Q sl S) (h1 : t = true → AT P x Q sl S) : AT P (.cond c x y) Q sl S := AT_condS t hc h1 h2

variable {E : List Nat} {st : Nat} {I : Store → Prop} {fuel : Nat} {listed : Array Bool}
theorem aseg {f2 : Nat} (fuel : Nat) (l : List Nat) (m : List Nat) (u : List (Nat × D)) (l' : Array Bool) (h : dStep P ops E st l (maskN m) listed (mkS N ps) = some (l', mkS N (updS ps m u), none)) (hn : fuel + l.length = f2)
    (k : AAny P ops E st I (RQ Q) fuel l' (mkS N (updS ps m u)) S) : AAny P ops E st I (RQ Q) f2 listed (mkS N ps) S := AAny_seg fuel l (maskN m) _ none l' h trivial hn k
theorem asegc {f2 : Nat} (fuel : Nat) (l : List Nat) (m : List Nat) (u : List (Nat × D)) (φ : Prop) (l' : Array Bool) (h : dStep P ops E st l (maskN m) listed (mkS N ps) = some (l', mkS N (updS ps m u), some φ)) (hφ : φ) (hn : fuel + l.length = f2)
    (k : AAny P ops E st I (RQ Q) fuel l' (mkS N (updS ps m u)) S) : AAny P ops E st I (RQ Q) f2 listed (mkS N ps) S := AAny_seg fuel l (maskN m) _ (some φ) l' h hφ hn k
theorem afg {t : Nat} {d : D} (m : List Nat) (l' : Array Bool) (h2 : listed = l') (k : AAny P ops E st I (RQ Q) fuel l' (mkS N (updS ps m [(t, d)])) S) : AAny P ops E st I (RQ Q) fuel listed (aput (mkS N ps) (some t) d) S := by
  subst h2; simp only [aput]; rw [set_mkS]; exact AAny_le (upd_le m t d) k
theorem afg0 {d : D} (m : List Nat) (l' : Array Bool) (h2 : listed = l') (k : AAny P ops E st I (RQ Q) fuel l' (mkS N (updS ps m [])) S) : AAny P ops E st I (RQ Q) fuel listed (aput (mkS N ps) none d) S := by
  subst h2; exact AAny_le (keep_le m) k
theorem atod (i : Nat) (d d' : D) (h : look ps i = d) (e : d = d') (k : AAny P ops E st I (RQ Q) fuel listed (mkS N ((i, d') :: ps)) S) : AAny P ops E st I (RQ Q) fuel listed (mkS N ps) S := by
  have : mkS N ((i, d') :: ps) = mkS N ps := by
    unfold mkS
    congr 1
    funext j
    simp only [look]
    split
    · rename_i e2; rw [beq_iff_eq.1 e2, h, e]
    · rfl
  rw [← this]; exact k
theorem acased (i : Nat) (b : Bool) (hi : look ps i = bo b) (h1 : b = true → AAny P ops E st I (RQ Q) fuel listed (mkS N ((i, bo true) :: ps)) S) (h2 : b = false → AAny P ops E st I (RQ Q) fuel listed (mkS N ((i, bo false) :: ps)) S) : AAny P ops E st I (RQ Q) fuel listed (mkS N ps) S := by
  cases b
  · exact atod i _ _ hi rfl (h2 rfl)
  · exact atod i _ _ hi rfl (h1 rfl)
theorem acasedR (i : Nat) (b : Bool) (hi : look ps i = bo b) (h2 : b = false → AAny P ops E st I (RQ Q) fuel listed (mkS N ((i, bo false) :: ps)) S) (h1 : b = true → AAny P ops E st I (RQ Q) fuel listed (mkS N ((i, bo true) :: ps)) S) : AAny P ops E st I (RQ Q) fuel listed (mkS N ps) S := acased i b hi h1 h2

/-! ### Steps from code to code -/
theorem zsr {id : Nat} {y : Code} (h : AOps P ops (athen (fun sl S => AT P y Q sl S) Q) (List.range ops.size) sl S) : AT P (.seq (.region id ops false) y) Q sl S := AT_seq (AT_region h)
theorem zn {nx : List D → Store → Prop} (h : nx sl S) : AOps P ops (athen nx Q) [] sl S := AOps_end h
theorem zns {x y : Code} (h : AT P x (athen (fun sl S => AT P y Q2 sl S) Q2) sl S) : AOps P ops (athen (fun sl S => AT P (.seq x y) Q2 sl S) Q1) [] sl S := AOps_end (AT_seq h)
theorem znsr {id : Nat} {y : Code} (h : AOps P ops2 (athen (fun sl S => AT P y Q2 sl S) Q2) (List.range ops2.size) sl S) : AOps P ops (athen (fun sl S => AT P (.seq (.region id ops2 false) y) Q2 sl S) Q1) [] sl S := AOps_end (AT_seq (AT_region h))
theorem znr {id : Nat} (h : AOps P ops2 Q2 (List.range ops2.size) sl S) : AOps P ops (athen (fun sl S => AT P (.region id ops2 false) Q2 sl S) Q1) [] sl S := AOps_end (AT_region h)
theorem zkn {nx : List D → Store → Prop} (h : nx sl S) : AT P .skip (athen nx Q) sl S := AT_skip h
theorem bs {α β : Type} {o : Option α} {f : α → Option β} {r : β} (h : o.bind f = some r) : ∃ a, o = some a ∧ f a = some r := Option.bind_eq_some_iff.1 h
theorem is {α : Type} {c : Prop} [Decidable c] {x : Option α} {r : α} (h : (if c then x else none) = some r) : c ∧ x = some r := by
  split at h
  · exact ⟨‹_›, h⟩
  · cases h
end Go.Proofs.Ytfaojkajlpojlaa.Abs
