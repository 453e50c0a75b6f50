/- Floats that are whole numbers. -/
import Derived.Test.YtfaojkajlpojlaaAbsW
import Derived.Laws.ComplexArith
import Derived.Laws.FloatArith
import Derived.Laws.Cover3
import Derived.Laws.Cover2
namespace Go.Proofs.Ytfaojkajlpojlaa.Abs
open Go Go.RowKit Ieee

theorem log2_mul_pow {m : Nat} (hm : m ≠ 0) (k : Nat) : (m * 2 ^ k).log2 = m.log2 + k := by
  have h0 : m * 2 ^ k ≠ 0 := Nat.mul_ne_zero hm (Nat.pos_iff_ne_zero.1 (Nat.two_pow_pos k))
  rw [Nat.log2_eq_iff h0]
  constructor
  · rw [Nat.pow_add]; exact Nat.mul_le_mul_right _ (Nat.log2_self_le hm)
  · rw [show m.log2 + k + 1 = m.log2 + 1 + k by omega, Nat.pow_add]
    exact Nat.mul_lt_mul_of_pos_right Nat.lt_log2_self (Nat.two_pow_pos k)
theorem cut_exact (neg : Bool) (m d : Nat) (hm : m ≠ 0 ∨ d = 0) (way : Toward) : way.cut neg (m * 2 ^ d) d = m := by
  have hg : (1 : Nat) <<< min d ((m * 2 ^ d).log2 + 2) = 2 ^ d := by
    rw [Nat.one_shiftLeft]
    congr 1
    rcases hm with hm | rfl
    · rw [log2_mul_pow hm]; omega
    · simp
  unfold Toward.cut
  simp only [hg]
  have h1 : m * 2 ^ d / 2 ^ d = m := Nat.mul_div_cancel _ (Nat.two_pow_pos d)
  have h2 : m * 2 ^ d % 2 ^ d = 0 := Nat.mul_mod_left _ _
  rw [h1, h2]
  have hp := Nat.two_pow_pos d
  cases way <;> simp <;> omega
theorem cut_trunc (neg : Bool) (n k : Nat) : Toward.zero.cut neg (n * 2 ^ k) k = n := by
  rcases Nat.eq_zero_or_pos n with rfl | h
  · simp [Toward.cut]
  · exact cut_exact neg n k (.inl (by omega)) .zero

/-- The word nearest to a whole number below 2^53 is that number. -/
theorem nearest_word {m : Nat} (hm : m ≠ 0) (hb : m < 2 ^ 53) (neg : Bool) (k : Nat) :
    double.nearest neg (m * 2 ^ k) (-(k : Int)) = double.word neg ((m.log2 + 1022) * 2 ^ 52 + m * 2 ^ (52 - m.log2)) := by
  have hl : m.log2 ≤ 52 := by have := (Nat.log2_lt hm).2 hb; omega
  have h0 : m * 2 ^ k ≠ 0 := Nat.mul_ne_zero hm (Nat.pos_iff_ne_zero.1 (Nat.two_pow_pos k))
  unfold Format.nearest
  rw [if_neg h0]
  have hlp : double.leastPlace = -1074 := by decide
  have hfb : double.fractionBits = 52 := rfl
  have hbin : double.binade = 2 ^ 52 := rfl
  simp only [log2_mul_pow hm, hlp, hfb, hbin]
  have hlast : max (-(k : Int) + ((m.log2 + k : Nat) : Int) - ((52 : Nat) : Int)) (-1074) = (m.log2 : Int) - 52 := by omega
  rw [hlast]
  have hcut : Toward.even.cut neg ((m * 2 ^ k) <<< (-(k : Int) - ((m.log2 : Int) - 52)).toNat) (((m.log2 : Int) - 52) - -(k : Int)).toNat = m * 2 ^ (52 - m.log2) := by
    rcases Nat.lt_or_ge (52 - m.log2) k with h | h
    · have e1 : (-(k : Int) - ((m.log2 : Int) - 52)).toNat = 0 := by omega
      have e2 : (((m.log2 : Int) - 52) - -(k : Int)).toNat = k - (52 - m.log2) := by omega
      rw [e1, e2, Nat.shiftLeft_zero]
      have e3 : m * 2 ^ k = (m * 2 ^ (52 - m.log2)) * 2 ^ (k - (52 - m.log2)) := by
        rw [Nat.mul_assoc, ← Nat.pow_add]; congr 2; omega
      rw [e3]
      exact cut_exact neg _ _ (.inl (Nat.mul_ne_zero hm (Nat.pos_iff_ne_zero.1 (Nat.two_pow_pos _)))) .even
    · have e1 : (-(k : Int) - ((m.log2 : Int) - 52)).toNat = (52 - m.log2) - k := by omega
      have e2 : (((m.log2 : Int) - 52) - -(k : Int)).toNat = 0 := by omega
      rw [e1, e2, Nat.shiftLeft_eq]
      have e3 : m * 2 ^ k * 2 ^ (52 - m.log2 - k) = m * 2 ^ (52 - m.log2) := by
        rw [Nat.mul_assoc, ← Nat.pow_add]; congr 2; omega
      rw [e3]
      have := cut_exact neg (m * 2 ^ (52 - m.log2)) 0 (.inr rfl) .even
      simpa using this
  rw [hcut]
  congr 1
  have e4 : ((m.log2 : Int) - 52 - -1074).toNat = m.log2 + 1022 := by omega
  rw [e4]
  apply Nat.min_eq_left
  have hinf : double.infRung = 2047 * 2 ^ 52 := rfl
  rw [hinf]
  have h5 : m * 2 ^ (52 - m.log2) < 2 ^ 53 := by
    have h6 : m < 2 ^ (m.log2 + 1) := Nat.lt_log2_self
    calc m * 2 ^ (52 - m.log2) < 2 ^ (m.log2 + 1) * 2 ^ (52 - m.log2) := Nat.mul_lt_mul_of_pos_right h6 (Nat.two_pow_pos _)
      _ = 2 ^ 53 := by rw [← Nat.pow_add]; congr 1; omega
  omega
theorem read_word {m : Nat} (hm : m ≠ 0) (hb : m < 2 ^ 53) (neg : Bool) :
    double.read (double.word neg ((m.log2 + 1022) * 2 ^ 52 + m * 2 ^ (52 - m.log2))) = .number neg (m * 2 ^ (52 - m.log2)) (-((52 - m.log2 : Nat) : Int)) := by
  have hl : m.log2 ≤ 52 := by have := (Nat.log2_lt hm).2 hb; omega
  have h5 : m * 2 ^ (52 - m.log2) < 2 ^ 53 := by
    have h6 : m < 2 ^ (m.log2 + 1) := Nat.lt_log2_self
    calc m * 2 ^ (52 - m.log2) < 2 ^ (m.log2 + 1) * 2 ^ (52 - m.log2) := Nat.mul_lt_mul_of_pos_right h6 (Nat.two_pow_pos _)
      _ = 2 ^ 53 := by rw [← Nat.pow_add]; congr 1; omega
  have h7 : 2 ^ 52 ≤ m * 2 ^ (52 - m.log2) := by
    have h6 : 2 ^ m.log2 ≤ m := Nat.log2_self_le hm
    calc 2 ^ 52 = 2 ^ m.log2 * 2 ^ (52 - m.log2) := by rw [← Nat.pow_add]; congr 1; omega
      _ ≤ m * 2 ^ (52 - m.log2) := Nat.mul_le_mul_right _ h6
  generalize hK : m * 2 ^ (52 - m.log2) = K at h5 h7
  generalize m.log2 = L at hl hK
  have hsw : double.signWeight = 2 ^ 63 := rfl
  have hbin : double.binade = 2 ^ 52 := rfl
  have hinf : double.infRung = 2047 * 2 ^ 52 := rfl
  have hlp : double.leastPlace = -1074 := by decide
  have hr : (L + 1022) * 2 ^ 52 + K < 2 ^ 63 := by omega
  have hneg : (double.word neg ((L + 1022) * 2 ^ 52 + K) / double.signWeight % 2 == 1) = neg := by
    rw [hsw]
    cases neg <;> simp only [Format.word, hsw, if_true, Bool.false_eq_true, if_false]
    · rw [Nat.div_eq_of_lt hr]; rfl
    · rw [Nat.add_div_left _ (by decide), Nat.div_eq_of_lt hr]; rfl
  have hrung : double.word neg ((L + 1022) * 2 ^ 52 + K) % double.signWeight = (L + 1022) * 2 ^ 52 + K := by
    rw [hsw]
    cases neg <;> simp only [Format.word, hsw, if_true, Bool.false_eq_true, if_false]
    · exact Nat.mod_eq_of_lt hr
    · rw [Nat.add_mod_left]; exact Nat.mod_eq_of_lt hr
  unfold Format.read
  simp only [hneg, hrung, hbin, hinf, hlp]
  rw [if_neg (by omega), if_pos (by omega)]
  have h8 : ((L + 1022) * 2 ^ 52 + K) / 2 ^ 52 = L + 1023 := by omega
  have h9 : ((L + 1022) * 2 ^ 52 + K) % 2 ^ 52 = K - 2 ^ 52 := by omega
  rw [h8, h9, show 2 ^ 52 + (K - 2 ^ 52) = K from by omega, show (-1074 : Int) + ((L + 1023 - 1 : Nat) : Int) = -((52 - L : Nat) : Int) from by omega]
theorem flB_write {n : Int} (hb : n.natAbs < 2 ^ 53) {s : Bool} (hs : n ≠ 0 → s = decide (n < 0)) (k : Nat) : FlB (double.write (.number s (n.natAbs * 2 ^ k) (-(k : Int)))) n := by
  unfold FlB
  have ew : double.write (.number s (n.natAbs * 2 ^ k) (-(k : Int))) = double.nearest s (n.natAbs * 2 ^ k) (-(k : Int)) := rfl
  rw [ew]
  by_cases h0 : n = 0
  · subst h0
    simp only [Int.natAbs_zero, Nat.zero_mul, Format.nearest, if_true]
    refine ⟨s, 1074, ?_, fun h => absurd rfl h⟩
    cases s <;> decide
  · have hm : n.natAbs ≠ 0 := by omega
    rw [nearest_word hm hb, read_word hm hb]
    exact ⟨s, _, rfl, hs⟩
theorem flB_add {x y : Nat} {a b : Int} (hx : FlB x a) (hy : FlB y b) (h : (a + b).natAbs < 2 ^ 53) : ∃ r, double.add x y = some r ∧ FlB r (a + b) := by
  obtain ⟨s, k, h1, h2⟩ := hx
  obtain ⟨t, l, h3, h4⟩ := hy
  have hs : ∀ (s : Bool) (a : Int) (j : Nat), (a ≠ 0 → s = decide (a < 0)) → signed s (a.natAbs) j = a * 2 ^ j := fun s a j hs => by
    unfold signed
    rw [Nat.shiftLeft_eq]
    by_cases h0 : a = 0
    · subst h0; cases s <;> simp
    · rw [hs h0]
      by_cases hn : a < 0
      · rw [decide_eq_true hn, if_pos rfl, Int.natCast_mul, Int.natCast_pow, Int.ofNat_natAbs_of_nonpos (by omega), Int.neg_mul, Int.neg_neg]; rfl
      · rw [decide_eq_false hn, if_neg (by decide), Int.natCast_mul, Int.natCast_pow, Int.natAbs_of_nonneg (by omega)]; rfl
  have hs2 : ∀ (s : Bool) (a : Int) (k j : Nat), (a ≠ 0 → s = decide (a < 0)) → signed s (a.natAbs * 2 ^ k) j = a * 2 ^ (k + j) := fun s a k j hs1 => by
    rw [← hs s a (k + j) hs1]
    unfold signed
    rw [Nat.shiftLeft_eq, Nat.shiftLeft_eq, Nat.mul_assoc, ← Nat.pow_add]
  refine ⟨_, by simp only [Format.add, h1, h3, Datum.sum, Option.map_some]; rfl, ?_⟩
  have hmin : min (-(k : Int)) (-(l : Int)) = -((max k l : Nat) : Int) := by omega
  rw [hmin]
  have e1 : (-(k : Int) - -((max k l : Nat) : Int)).toNat = max k l - k := by omega
  have e2 : (-(l : Int) - -((max k l : Nat) : Int)).toNat = max k l - l := by omega
  rw [e1, e2, hs2 s a k _ h2, hs2 t b l _ h4, show k + (max k l - k) = max k l by omega, show l + (max k l - l) = max k l by omega, ← Int.add_mul]
  have hp : (0 : Int) < 2 ^ (max k l) := Int.pow_pos (by decide)
  have e3 : ((a + b) * 2 ^ (max k l)).natAbs = (a + b).natAbs * 2 ^ (max k l) := by rw [Int.natAbs_mul, Int.natAbs_pow]; rfl
  rw [e3]
  refine flB_write h (fun h0 => ?_) _
  have hne : (a + b) * 2 ^ (max k l) ≠ 0 := Int.mul_ne_zero h0 (by omega)
  rw [if_neg hne]
  congr 1
  apply propext
  constructor
  · intro hlt
    rcases (show a + b < 0 ∨ 0 ≤ a + b by omega) with h7 | h7
    · exact h7
    · have := Int.mul_nonneg h7 (Int.le_of_lt hp); omega
  · intro hlt
    exact Int.mul_neg_of_neg_of_pos hlt hp
theorem flB_mul {x y : Nat} {a b : Int} (hx : FlB x a) (hy : FlB y b) (h : (a * b).natAbs < 2 ^ 53) : ∃ r, double.mul x y = some r ∧ FlB r (a * b) := by
  obtain ⟨s, k, h1, h2⟩ := hx
  obtain ⟨t, l, h3, h4⟩ := hy
  refine ⟨_, by simp only [Format.mul, h1, h3, Datum.product, Option.map_some]; rfl, ?_⟩
  have e1 : a.natAbs * 2 ^ k * (b.natAbs * 2 ^ l) = (a * b).natAbs * 2 ^ (k + l) := by
    rw [Int.natAbs_mul, Nat.pow_add]; simp only [Nat.mul_assoc, Nat.mul_left_comm, Nat.mul_comm]
  have e2 : -(k : Int) + -(l : Int) = -((k + l : Nat) : Int) := by omega
  rw [e1, e2]
  refine flB_write h (fun h0 => ?_) _
  have ha : a ≠ 0 := fun e => h0 (by rw [e, Int.zero_mul])
  have hb : b ≠ 0 := fun e => h0 (by rw [e, Int.mul_zero])
  rw [h2 ha, h4 hb]
  by_cases ha2 : a < 0 <;> by_cases hb2 : b < 0
  · have : ¬ (a * b < 0) := by have := Int.mul_pos_of_neg_of_neg ha2 hb2; omega
    simp [ha2, hb2, this]
  · have : a * b < 0 := Int.mul_neg_of_neg_of_pos ha2 (by omega)
    simp [ha2, hb2, this]
  · have : a * b < 0 := Int.mul_neg_of_pos_of_neg (by omega) hb2
    simp [ha2, hb2, this]
  · have : ¬ (a * b < 0) := by have := Int.mul_pos (show 0 < a by omega) (show 0 < b by omega); omega
    simp [ha2, hb2, this]
theorem flB_opp {y : Nat} {b : Int} (hy : FlB y b) : ∃ (s : Bool) (k : Nat), (double.read y).opposite = .number s ((-b).natAbs * 2 ^ k) (-(k : Int)) ∧ (-b ≠ 0 → s = decide (-b < 0)) := by
  obtain ⟨t, l, h3, h4⟩ := hy
  refine ⟨!t, l, by rw [h3, Int.natAbs_neg]; rfl, fun h0 => ?_⟩
  rw [h4 (by omega)]
  by_cases hb : b < 0
  · have : ¬ (-b < 0) := by omega
    rw [decide_eq_true hb, decide_eq_false this]; rfl
  · have : -b < 0 := by omega
    rw [decide_eq_false hb, decide_eq_true this]; rfl
theorem read_neg (y : Nat) : double.read (Op.negFloat .f64 y) = (double.read y).opposite := by
  have hsw : double.signWeight = 2 ^ 63 := rfl
  have e : FloatKind.f64.format.exponentBits + FloatKind.f64.format.fractionBits = 63 := rfl
  have e1 : (Op.negFloat .f64 y) % 2 ^ 63 = y % 2 ^ 63 := by
    unfold Op.negFloat
    rw [e]
    apply Nat.eq_of_testBit_eq
    intro i
    rw [Nat.testBit_mod_two_pow, Nat.testBit_mod_two_pow, Nat.testBit_xor, Nat.testBit_two_pow]
    by_cases hi : i < 63
    · simp [hi, show ¬ (63 = i) by omega]
    · simp [hi]
  have e2 : (Op.negFloat .f64 y / 2 ^ 63 % 2 == 1) = !(y / 2 ^ 63 % 2 == 1) := by
    have t : ∀ z : Nat, (z / 2 ^ 63 % 2 == 1) = z.testBit 63 := fun z => by
      rw [Nat.testBit_eq_decide_div_mod_eq]
      cases h : decide (z / 2 ^ 63 % 2 = 1) <;> simp_all
    rw [t, t]
    unfold Op.negFloat
    rw [e, Nat.testBit_xor, Nat.testBit_two_pow]
    simp
  unfold Format.read
  simp only [hsw, e1, e2]
  split
  · rfl
  · split
    · rfl
    · split <;> rfl
theorem flB_neg {y : Nat} {b : Int} (hy : FlB y b) : FlB (Op.negFloat .f64 y) (-b) := by
  obtain ⟨s, k, h1, h2⟩ := flB_opp hy
  exact ⟨s, k, by rw [read_neg]; exact h1, h2⟩
theorem flB_sub {x y : Nat} {a b : Int} (hx : FlB x a) (hy : FlB y b) (h : (a - b).natAbs < 2 ^ 53) : ∃ r, double.sub x y = some r ∧ FlB r (a - b) := by
  obtain ⟨r, h1, h2⟩ := flB_add hx (flB_neg hy) (by rw [← Int.sub_eq_add_neg]; exact h)
  rw [← Int.sub_eq_add_neg] at h2
  refine ⟨r, ?_, h2⟩
  have := read_neg y
  unfold Format.add at h1
  unfold Format.sub
  rw [this] at h1
  exact h1
theorem flB_ofInt {n : Int} (h : n.natAbs < 2 ^ 53) : FlB (floatOfInt .f64 n) n := by
  have := flB_write h (s := decide (n < 0)) (fun _ => rfl) 0
  simpa [floatOfInt, FloatKind.nearest, FloatKind.encode, FloatKind.format] using this
theorem flB_toInt {x : Nat} {n : Int} (hx : FlB x n) : (FloatKind.f64.decode x).toInt .zero = some n := by
  obtain ⟨s, k, h1, h2⟩ := hx
  have : FloatKind.f64.decode x = double.read x := rfl
  rw [this, h1]
  simp only [Datum.toInt, Datum.integral]
  have e1 : (-(k : Int)).toNat = 0 := by omega
  have e2 : (- -(k : Int)).toNat = k := by omega
  rw [e1, e2, Nat.shiftLeft_zero, cut_trunc]
  congr 1
  unfold signed
  rw [Nat.shiftLeft_zero]
  by_cases h0 : n = 0
  · subst h0; cases s <;> simp
  · rw [h2 h0]
    by_cases hn : n < 0
    · rw [decide_eq_true hn, if_pos rfl]; omega
    · rw [decide_eq_false hn, if_neg (by decide)]; omega

variable {P : Program} {Q : Exit → List D → Store → Prop} {sl : List D} {S : Store} {G : Gh} {w : World}
theorem AOps_i2f {ops : Array Oper} {i : Nat} {l : List Nat} {o : Oper} {t t2 : TypeId} {y : Operand} {k : IntKind} {n : Int} (ho : ops[i]? = some o) (hw : awanted ops sl o = some true) (hop : o.op = .convert t t2 y)
    (ht : (P.underlying t).isSome = true) (ht2 : P.underlying t2 = some (.float .f64)) (hy : aval sl y = .lit (.int k n)) (hn : n.natAbs < 2 ^ 53) (h : AOps P ops Q l (aput sl o.dst (.fl n)) S) : AOps P ops Q (i :: l) sl S := by
  refine AOps_one ho hw fun G w a hs hr hdf => ?_
  have h1 := lit_of hr hy
  exact ⟨_, w, G, .fl n, S, by simp only [execOp, hop]; exact wrap_v (by rw [h1]; exact run_convert_int_float w t t2 k .f64 n ht ht2), Ext.refl G, hs, .inr ⟨_, rfl, by simp only [Rep]; exact ⟨_, rfl, flB_ofInt hn⟩⟩, h⟩
theorem AOps_f2i {ops : Array Oper} {i : Nat} {l : List Nat} {o : Oper} {t t2 : TypeId} {y : Operand} {n : Int} (ho : ops[i]? = some o) (hw : awanted ops sl o = some true) (hop : o.op = .convert t t2 y)
    (ht : (P.underlying t).isSome = true) (ht2 : P.underlying t2 = some (.int .i64)) (hy : aval sl y = .fl n) (hn : -9223372036854775808 ≤ n ∧ n ≤ 9223372036854775807) (h : AOps P ops Q l (aput sl o.dst (i64 n)) S) : AOps P ops Q (i :: l) sl S := by
  refine AOps_one ho hw fun G w a hs hr hdf => ?_
  have h1 := aval_rep hr y
  rw [hy] at h1
  simp only [Rep] at h1
  obtain ⟨x, h2, h3⟩ := h1
  have key : floatToIntVal .f64 x .i64 = some n := by
    unfold floatToIntVal
    rw [flB_toInt h3]
    exact if_pos hn
  exact ⟨_, w, G, i64 n, S, by simp only [execOp, hop]; exact wrap_v (by rw [h2]; exact run_convert_float_int w t t2 .f64 .i64 x n ht ht2 key), Ext.refl G, hs, .inr ⟨_, rfl, by simp [Rep]⟩, h⟩
theorem AOps_complex {ops : Array Oper} {i : Nat} {l : List Nat} {o : Oper} {ts : Array TypeId} {x y : Operand} {a b : Int} (ho : ops[i]? = some o) (hw : awanted ops sl o = some true) (hop : o.op = .call { callee := .builtin .complex, args := #[x, y], argTypes := ts })
    (hx : aval sl x = .fl a) (hy : aval sl y = .fl b) (h : AOps P ops Q l (aput sl o.dst (.cx a b)) S) : AOps P ops Q (i :: l) sl S := by
  refine AOps_one ho hw fun G w act hs hr hdf => ?_
  have h1 := aval_rep hr x
  have h2 := aval_rep hr y
  rw [hx] at h1; rw [hy] at h2
  simp only [Rep] at h1 h2
  obtain ⟨p, h3, h4⟩ := h1
  obtain ⟨q, h5, h6⟩ := h2
  have e : (#[x, y] : Array Operand).map act.eval = #[act.eval x, act.eval y] := by simp
  refine ⟨.value (.complex .f64 p q), w, G, .cx a b, S, ?_, Ext.refl G, hs, .inr ⟨_, rfl, by simp only [Rep]; exact ⟨p, q, rfl, h4, h6⟩⟩, h⟩
  simp only [execOp, hop, resolve, Sem.run_bind, Sem.run_pure, Result.andThen_ok, invoke, builtin, e, h3, h5, run_complex]
theorem AOps_real {ops : Array Oper} {i : Nat} {l : List Nat} {o : Oper} {ts : Array TypeId} {x : Operand} {a b : Int} (ho : ops[i]? = some o) (hw : awanted ops sl o = some true) (hop : o.op = .call { callee := .builtin .real, args := #[x], argTypes := ts })
    (hx : aval sl x = .cx a b) (h : AOps P ops Q l (aput sl o.dst (.fl a)) S) : AOps P ops Q (i :: l) sl S := by
  refine AOps_one ho hw fun G w act hs hr hdf => ?_
  have h1 := aval_rep hr x
  rw [hx] at h1
  simp only [Rep] at h1
  obtain ⟨p, q, h3, h4, h5⟩ := h1
  have e : (#[x] : Array Operand).map act.eval = #[act.eval x] := by simp
  refine ⟨.value (.float .f64 p), w, G, .fl a, S, ?_, Ext.refl G, hs, .inr ⟨_, rfl, by simp only [Rep]; exact ⟨p, rfl, h4⟩⟩, h⟩
  simp only [execOp, hop, resolve, Sem.run_bind, Sem.run_pure, Result.andThen_ok, invoke, builtin, e, h3, run_real]
theorem AOps_imag {ops : Array Oper} {i : Nat} {l : List Nat} {o : Oper} {ts : Array TypeId} {x : Operand} {a b : Int} (ho : ops[i]? = some o) (hw : awanted ops sl o = some true) (hop : o.op = .call { callee := .builtin .imag, args := #[x], argTypes := ts })
    (hx : aval sl x = .cx a b) (h : AOps P ops Q l (aput sl o.dst (.fl b)) S) : AOps P ops Q (i :: l) sl S := by
  refine AOps_one ho hw fun G w act hs hr hdf => ?_
  have h1 := aval_rep hr x
  rw [hx] at h1
  simp only [Rep] at h1
  obtain ⟨p, q, h3, h4, h5⟩ := h1
  have e : (#[x] : Array Operand).map act.eval = #[act.eval x] := by simp
  refine ⟨.value (.float .f64 q), w, G, .fl b, S, ?_, Ext.refl G, hs, .inr ⟨_, rfl, by simp only [Rep]; exact ⟨q, rfl, h5⟩⟩, h⟩
  simp only [execOp, hop, resolve, Sem.run_bind, Sem.run_pure, Result.andThen_ok, invoke, builtin, e, h3, run_imag]
theorem AOps_fneg {ops : Array Oper} {i : Nat} {l : List Nat} {o : Oper} {t : TypeId} {x : Operand} {a : Int} (ho : ops[i]? = some o) (hw : awanted ops sl o = some true) (hop : o.op = .unOp .neg t x)
    (hx : aval sl x = .fl a) (h : AOps P ops Q l (aput sl o.dst (.fl (-a))) S) : AOps P ops Q (i :: l) sl S := by
  refine AOps_one ho hw fun G w act hs hr hdf => ?_
  have h1 := aval_rep hr x
  rw [hx] at h1
  simp only [Rep] at h1
  obtain ⟨p, h3, h4⟩ := h1
  exact ⟨_, w, G, .fl (-a), S, by simp only [execOp, hop]; exact wrap_v (by rw [h3]; rfl), Ext.refl G, hs, .inr ⟨_, rfl, by simp only [Rep]; exact ⟨_, rfl, flB_neg h4⟩⟩, h⟩
theorem AOps_cadd {ops : Array Oper} {i : Nat} {l : List Nat} {o : Oper} {t ty : TypeId} {x y : Operand} {a b c d : Int} (ho : ops[i]? = some o) (hw : awanted ops sl o = some true) (hop : o.op = .binOp .add t x y ty)
    (hx : aval sl x = .cx a b) (hy : aval sl y = .cx c d) (hb : (a + c).natAbs < 2 ^ 53 ∧ (b + d).natAbs < 2 ^ 53) (h : AOps P ops Q l (aput sl o.dst (.cx (a + c) (b + d))) S) : AOps P ops Q (i :: l) sl S := by
  refine AOps_one ho hw fun G w act hs hr hdf => ?_
  have h1 := aval_rep hr x
  have h2 := aval_rep hr y
  rw [hx] at h1; rw [hy] at h2
  simp only [Rep] at h1 h2
  obtain ⟨p, q, h3, h4, h5⟩ := h1
  obtain ⟨p2, q2, h6, h7, h8⟩ := h2
  obtain ⟨r, r1, r2⟩ := flB_add h4 h7 hb.1
  obtain ⟨s, s1, s2⟩ := flB_add h5 h8 hb.2
  refine ⟨_, w, G, .cx (a + c) (b + d), S, by simp only [execOp, hop]; exact wrap_v (by
    rw [h3, h6]
    have := run_complex_sum (P := P) w .add (.inl rfl) t .f64 p q p2 q2 r s (by simp only [cSumBits, floatBits, FloatKind.format, r1, s1, Option.bind_some])
    rw [Sem.run_bind, show (eqGuard .add t x y (.complex .f64 p q) (.complex .f64 p2 q2)).run P w = .ok () w by simp [eqGuard], Result.andThen_ok]
    exact this), Ext.refl G, hs, .inr ⟨_, rfl, by simp only [Rep]; exact ⟨_, _, rfl, r2, s2⟩⟩, h⟩
theorem AOps_csub {ops : Array Oper} {i : Nat} {l : List Nat} {o : Oper} {t ty : TypeId} {x y : Operand} {a b c d : Int} (ho : ops[i]? = some o) (hw : awanted ops sl o = some true) (hop : o.op = .binOp .sub t x y ty)
    (hx : aval sl x = .cx a b) (hy : aval sl y = .cx c d) (hb : (a - c).natAbs < 2 ^ 53 ∧ (b - d).natAbs < 2 ^ 53) (h : AOps P ops Q l (aput sl o.dst (.cx (a - c) (b - d))) S) : AOps P ops Q (i :: l) sl S := by
  refine AOps_one ho hw fun G w act hs hr hdf => ?_
  have h1 := aval_rep hr x
  have h2 := aval_rep hr y
  rw [hx] at h1; rw [hy] at h2
  simp only [Rep] at h1 h2
  obtain ⟨p, q, h3, h4, h5⟩ := h1
  obtain ⟨p2, q2, h6, h7, h8⟩ := h2
  obtain ⟨r, r1, r2⟩ := flB_sub h4 h7 hb.1
  obtain ⟨s, s1, s2⟩ := flB_sub h5 h8 hb.2
  refine ⟨_, w, G, .cx (a - c) (b - d), S, by simp only [execOp, hop]; exact wrap_v (by
    rw [h3, h6]
    have := run_complex_sum (P := P) w .sub (.inr rfl) t .f64 p q p2 q2 r s (by simp only [cSumBits, floatBits, FloatKind.format, r1, s1, Option.bind_some])
    rw [Sem.run_bind, show (eqGuard .sub t x y (.complex .f64 p q) (.complex .f64 p2 q2)).run P w = .ok () w by simp [eqGuard], Result.andThen_ok]
    exact this), Ext.refl G, hs, .inr ⟨_, rfl, by simp only [Rep]; exact ⟨_, _, rfl, r2, s2⟩⟩, h⟩
theorem AOps_cmul {ops : Array Oper} {i : Nat} {l : List Nat} {o : Oper} {t ty : TypeId} {x y : Operand} {a b c d : Int} (ho : ops[i]? = some o) (hw : awanted ops sl o = some true) (hop : o.op = .binOp .mul t x y ty)
    (hx : aval sl x = .cx a b) (hy : aval sl y = .cx c d) (hb : a.natAbs < 2 ^ 26 ∧ b.natAbs < 2 ^ 26 ∧ c.natAbs < 2 ^ 26 ∧ d.natAbs < 2 ^ 26) (h : AOps P ops Q l (aput sl o.dst (.cx (a * c - b * d) (a * d + b * c))) S) : AOps P ops Q (i :: l) sl S := by
  have m : ∀ u v : Int, u.natAbs < 2 ^ 26 → v.natAbs < 2 ^ 26 → (u * v).natAbs < 2 ^ 52 := fun u v hu hv => by
    rw [Int.natAbs_mul]
    calc u.natAbs * v.natAbs ≤ u.natAbs * 2 ^ 26 := Nat.mul_le_mul_left _ (Nat.le_of_lt hv)
      _ < 2 ^ 26 * 2 ^ 26 := Nat.mul_lt_mul_of_pos_right hu (by decide)
      _ = 2 ^ 52 := by decide
  refine AOps_one ho hw fun G w act hs hr hdf => ?_
  have h1 := aval_rep hr x
  have h2 := aval_rep hr y
  rw [hx] at h1; rw [hy] at h2
  simp only [Rep] at h1 h2
  obtain ⟨p, q, h3, h4, h5⟩ := h1
  obtain ⟨p2, q2, h6, h7, h8⟩ := h2
  obtain ⟨b1, b2, b3, b4⟩ := hb
  have m1 := m _ _ b1 b3
  have m2 := m _ _ b2 b4
  have m3 := m _ _ b1 b4
  have m4 := m _ _ b2 b3
  obtain ⟨r1, q1, z1⟩ := flB_mul h4 h7 (by omega)
  obtain ⟨r2, q2', z2⟩ := flB_mul h5 h8 (by omega)
  obtain ⟨r3, q3, z3⟩ := flB_mul h4 h8 (by omega)
  obtain ⟨r4, q4, z4⟩ := flB_mul h5 h7 (by omega)
  obtain ⟨r5, q5, z5⟩ := flB_sub z1 z2 (by omega)
  obtain ⟨r6, q6, z6⟩ := flB_add z3 z4 (by omega)
  refine ⟨_, w, G, .cx (a * c - b * d) (a * d + b * c), S, by simp only [execOp, hop]; exact wrap_v (by
    rw [h3, h6]
    have := run_complex_mul (P := P) w t p q p2 q2 r5 r6 (by simp only [cMulBits, floatBits, FloatKind.format, q1, q2', q3, q4, q5, q6, Option.bind_some])
    rw [Sem.run_bind, show (eqGuard .mul t x y (.complex .f64 p q) (.complex .f64 p2 q2)).run P w = .ok () w by simp [eqGuard], Result.andThen_ok]
    exact this), Ext.refl G, hs, .inr ⟨_, rfl, by simp only [Rep]; exact ⟨_, _, rfl, z5, z6⟩⟩, h⟩
theorem zero_cx : (D.lit (.complex .f64 0 0)).le (.cx 0 0) := fun G v h => by
  simp only [Rep] at *
  have z : FlB 0 0 := by
    have := flB_write (n := 0) (by decide) (s := false) (fun h => absurd rfl h) 0
    exact this
  exact ⟨0, 0, h, z, z⟩
theorem AOps_zcx {ops : Array Oper} {l : List Nat} (i : Nat) (sl' : List D) (hi : sl[i]? = some (.lit (.complex .f64 0 0))) (e : sl.set i (.cx 0 0) = sl') (h : AOps P ops Q l sl' S) : AOps P ops Q l sl S := by
  subst e
  refine AOps_weaken ?_ h
  clear h
  induction sl generalizing i with
  | nil => exact .nil
  | cons d sl ih =>
    cases i with
    | zero => simp at hi; subst hi; exact .cons zero_cx (LeL.refl _)
    | succ i => simp at hi; exact .cons (D.le.refl d) (ih i hi)
end Go.Proofs.Ytfaojkajlpojlaa.Abs
