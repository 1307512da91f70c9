/- Plain facts on floats of the model, no program in sight: the number that a word stands for, as a whole multiple of 2^-1074; how order, truncation, rounding of small whole numbers and widening read on it. -/
import Derived.Laws.FloatArith
import Derived.Laws.ComplexArith
namespace Go.Cpl
open Ieee

/-- Units: every finite number of both formats is a whole multiple of 2 ^ -1074. -/
def K : Nat := 1074
theorem K_eq : K = 1074 := rfl
def U : Nat := 2 ^ K
theorem U_pos : 0 < U := Nat.two_pow_pos _

theorem shl (m k : Nat) : m <<< k = m * 2 ^ k := Nat.shiftLeft_eq m k

theorem signed_add (s : Bool) (m a k : Nat) : signed s m (a + k) = signed s m a * ((2 ^ k : Nat) : Int) := by
  unfold signed
  rw [shl, shl, Nat.pow_add, ← Nat.mul_assoc]
  cases s
  · simp only [Bool.false_eq_true, if_false]; exact Int.natCast_mul _ _
  · simp only [if_true]; rw [Int.natCast_mul, Int.neg_mul]

theorem cmp_mul (a b : Int) (c : Nat) (h : 0 < c) : compare (a * (c : Int)) (b * (c : Int)) = compare a b := by
  have hc : (0 : Int) < (c : Int) := by omega
  simp only [compare, compareOfLessAndEq]
  by_cases h1 : a < b
  · rw [if_pos h1, if_pos (Int.mul_lt_mul_of_pos_right h1 hc)]
  · rw [if_neg h1, if_neg (fun h2 => h1 (Int.lt_of_mul_lt_mul_right h2 (Int.le_of_lt hc)))]
    by_cases h3 : a = b
    · rw [if_pos h3, if_pos (by rw [h3])]
    · rw [if_neg h3, if_neg (fun h4 => h3 (Int.eq_of_mul_eq_mul_right (by omega) h4))]

/-- The number that a datum stands for, in units. -/
def sc : Datum → Option Int
  | .number s m i => some (signed s m (i + 1074).toNat)
  | _ => none

/-- A datum whose place is not below the least one of both formats. -/
def Fit : Datum → Prop
  | .number _ _ i => -1074 ≤ i
  | _ => True

theorem order_num (s t : Bool) (m n : Nat) (i j : Int) (hi : -1074 ≤ i) (hj : -1074 ≤ j) :
    Datum.order (.number s m i) (.number t n j) = some (compare (signed s m (i + 1074).toNat) (signed t n (j + 1074).toNat)) := by
  simp only [Datum.order]
  have e1 : (i + 1074).toNat = (i - min i j).toNat + (min i j + 1074).toNat := by omega
  have e2 : (j + 1074).toNat = (j - min i j).toNat + (min i j + 1074).toNat := by omega
  rw [e1, e2, signed_add, signed_add, cmp_mul _ _ _ (Nat.two_pow_pos _)]

theorem order_sc {d e : Datum} {a b : Int} (hd : Fit d) (he : Fit e) (ha : sc d = some a) (hb : sc e = some b) : Datum.order d e = some (compare a b) := by
  cases d with
  | number s m i =>
    cases e with
    | number t n j =>
      simp only [sc, Option.some.injEq] at ha hb
      rw [order_num s t m n i j hd he, ha, hb]
    | infinity _ => simp [sc] at hb
    | nan _ _ => simp [sc] at hb
  | infinity _ => simp [sc] at ha
  | nan _ _ => simp [sc] at ha

theorem cut_even_zero (neg : Bool) (n : Nat) : Toward.even.cut neg n 0 = n := by
  simp [Toward.cut, Nat.mod_one]

theorem cut_zero (neg : Bool) (n drop : Nat) : Toward.zero.cut neg n drop = n / 2 ^ drop := by
  simp only [Toward.cut, Bool.toNat_false, Nat.add_zero]
  rw [shl, Nat.one_mul]
  by_cases h : drop ≤ n.log2 + 2
  · rw [Nat.min_eq_left h]
  · rw [Nat.min_eq_right (by omega)]
    have h1 : n < 2 ^ (n.log2 + 1) := Nat.lt_log2_self
    have h2 : 2 ^ (n.log2 + 1) ≤ 2 ^ (n.log2 + 2) := Nat.pow_le_pow_right (by omega) (by omega)
    have h3 : 2 ^ (n.log2 + 2) ≤ 2 ^ drop := Nat.pow_le_pow_right (by omega) (by omega)
    rw [Nat.div_eq_of_lt (by omega), Nat.div_eq_of_lt (by omega)]

theorem tdiv_signed (s : Bool) (n d : Nat) : Int.tdiv (signed s n 0) (d : Int) = signed s (n / d) 0 := by
  unfold signed
  rw [shl, shl, Nat.pow_zero, Nat.mul_one, Nat.mul_one]
  cases s
  · simp only [Bool.false_eq_true, if_false]; exact (Int.ofNat_tdiv n d).symm
  · simp only [if_true]; rw [Int.neg_tdiv]; congr 1

theorem signed_zero (s : Bool) (m k : Nat) : signed s m k = signed s (m * 2 ^ k) 0 := by
  unfold signed
  rw [shl, shl, Nat.pow_zero, Nat.mul_one]

theorem div_pow_add (m a k : Nat) : m * 2 ^ a / 2 ^ (a + k) = m / 2 ^ k := by
  rw [Nat.pow_add, Nat.mul_comm m, Nat.mul_div_mul_left _ _ (Nat.two_pow_pos _)]

/-- Truncation. -/
theorem toInt_sc {d : Datum} {a : Int} (hd : Fit d) (ha : sc d = some a) : d.toInt .zero = some (Int.tdiv a (U : Int)) := by
  cases d with
  | number s m i =>
    simp only [sc, Option.some.injEq] at ha
    subst ha
    have hi : -1074 ≤ i := hd
    simp only [Datum.toInt, Datum.integral, cut_zero]
    rw [signed_zero s m, tdiv_signed, shl]
    congr 2
    unfold U
    by_cases h : 0 ≤ i
    · have e1 : (-i).toNat = 0 := by omega
      have e2 : (i + 1074).toNat = i.toNat + K := by rw [K_eq]; omega
      rw [e1, e2, Nat.pow_zero, Nat.div_one, Nat.pow_add, ← Nat.mul_assoc, Nat.mul_div_cancel _ (Nat.two_pow_pos _)]
    · have e1 : i.toNat = 0 := by omega
      have e2 : (i + 1074).toNat + (-i).toNat = K := by rw [K_eq]; omega
      rw [e1, Nat.pow_zero, Nat.mul_one, ← e2, div_pow_add]
  | infinity _ => simp [sc] at ha
  | nan _ _ => simp [sc] at ha

/-! Small whole numbers, and numbers of the narrower format, are written exactly. -/
theorem read_word (f : Format) (neg : Bool) (rung : Nat) (h : rung < f.signWeight) :
    f.read (f.word neg rung) = (if rung < f.binade then .number neg rung f.leastPlace
      else if rung < f.infRung then .number neg (f.binade + rung % f.binade) (f.leastPlace + (rung / f.binade - 1 : Nat))
      else if rung = f.infRung then .infinity neg else .nan neg (rung - f.infRung)) := by
  have hn : (f.word neg rung / f.signWeight % 2 == 1) = neg := by
    unfold Format.word
    cases neg
    · simp [Nat.div_eq_of_lt h]
    · simp only [if_true]
      rw [Nat.add_comm, Nat.add_div_right _ (by omega), Nat.div_eq_of_lt h]; rfl
  have hr : f.word neg rung % f.signWeight = rung := by
    unfold Format.word
    cases neg
    · simp [Nat.mod_eq_of_lt h]
    · simp only [if_true]
      rw [Nat.add_mod_left, Nat.mod_eq_of_lt h]
  simp only [Format.read, hn, hr]

theorem log2_lt_pow {m : Nat} {F : Nat} (h : m.log2 ≤ F) : m < 2 ^ (F + 1) :=
  Nat.lt_of_lt_of_le Nat.lt_log2_self (Nat.pow_le_pow_right (by omega) (by omega))

theorem nearest_exact (f : Format) (neg : Bool) (mag : Nat) (place : Int) (hm : mag ≠ 0) (hL : mag.log2 ≤ f.fractionBits)
    (hlo : f.leastPlace ≤ place + mag.log2 - f.fractionBits) (hhi : place + mag.log2 - f.fractionBits - f.leastPlace + 2 ≤ ((2 ^ f.exponentBits - 1 : Nat) : Int)) :
    f.read (f.nearest neg mag place) = .number neg (mag * 2 ^ (f.fractionBits - mag.log2)) (place + mag.log2 - f.fractionBits) := by
  have hlast : max (place + (mag.log2 : Int) - f.fractionBits) f.leastPlace = place + mag.log2 - f.fractionBits := by omega
  simp only [Format.nearest, if_neg hm, hlast]
  have e1 : (place - (place + (mag.log2 : Int) - f.fractionBits)).toNat = f.fractionBits - mag.log2 := by omega
  have e2 : (place + (mag.log2 : Int) - f.fractionBits - place).toNat = 0 := by omega
  rw [e1, e2, cut_even_zero, shl]
  generalize hd : (place + (mag.log2 : Int) - f.fractionBits - f.leastPlace).toNat = d
  have hdi : (d : Int) = place + (mag.log2 : Int) - f.fractionBits - f.leastPlace := by omega
  generalize hk : mag * 2 ^ (f.fractionBits - mag.log2) = kept
  have hk1 : f.binade ≤ kept := by
    rw [← hk]; unfold Format.binade
    have h1 : 2 ^ mag.log2 ≤ mag := Nat.log2_self_le hm
    have h2 : 2 ^ f.fractionBits = 2 ^ mag.log2 * 2 ^ (f.fractionBits - mag.log2) := by rw [← Nat.pow_add]; congr 1; omega
    rw [h2]; exact Nat.mul_le_mul_right _ h1
  have hk2 : kept < 2 * f.binade := by
    rw [← hk]; unfold Format.binade
    have h1 : mag < 2 ^ (mag.log2 + 1) := Nat.lt_log2_self
    have h2 : 2 * 2 ^ f.fractionBits = 2 ^ (mag.log2 + 1) * 2 ^ (f.fractionBits - mag.log2) := by rw [← Nat.pow_add, Nat.mul_comm, ← Nat.pow_succ]; congr 1; omega
    rw [h2]; exact Nat.mul_lt_mul_of_pos_right h1 (Nat.two_pow_pos _)
  have hdR : d + 2 ≤ 2 ^ f.exponentBits - 1 := by omega
  have hb : 0 < f.binade := Nat.two_pow_pos _
  have hinf : (d + 2) * f.binade ≤ f.infRung := Nat.mul_le_mul_right _ hdR
  have hlt : d * f.binade + kept < f.infRung := by
    have : (d + 2) * f.binade = d * f.binade + 2 * f.binade := Nat.add_mul d 2 _
    omega
  rw [Nat.min_eq_left (Nat.le_of_lt hlt), read_word f neg _ (Nat.lt_trans hlt f.infRung_lt)]
  have hge : f.binade ≤ d * f.binade + kept := Nat.le_trans hk1 (Nat.le_add_left _ _)
  rw [if_neg (by omega), if_pos hlt]
  have hdiv : (d * f.binade + kept) / f.binade = d + 1 := by
    rw [Nat.add_comm, Nat.add_mul_div_right _ _ hb, show kept / f.binade = 1 from Nat.div_eq_of_lt_le (by omega) (by omega)]; omega
  have hmod : (d * f.binade + kept) % f.binade = kept - f.binade := by
    rw [Nat.add_comm, Nat.add_mul_mod_self_right, Nat.mod_eq_sub_mod hk1, Nat.mod_eq_of_lt (by omega)]
  rw [hdiv, hmod]
  congr 1
  · omega
  · omega

theorem sc_nearest (f : Format) (neg : Bool) (mag : Nat) (place : Int) (hm : mag ≠ 0) (hL : mag.log2 ≤ f.fractionBits)
    (hlo : f.leastPlace ≤ place + mag.log2 - f.fractionBits) (hhi : place + mag.log2 - f.fractionBits - f.leastPlace + 2 ≤ ((2 ^ f.exponentBits - 1 : Nat) : Int)) (hp : -1074 ≤ f.leastPlace) :
    sc (f.read (f.nearest neg mag place)) = some (signed neg mag (place + 1074).toNat) ∧ Fit (f.read (f.nearest neg mag place)) := by
  rw [nearest_exact f neg mag place hm hL hlo hhi]
  refine ⟨?_, by show (-1074 : Int) ≤ _; omega⟩
  simp only [sc, Option.some.injEq]
  rw [signed_zero neg mag, signed_zero, Nat.mul_assoc, ← Nat.pow_add]
  congr 3
  omega

theorem single_least : single.leastPlace = -149 := by decide
theorem double_least : double.leastPlace = -1074 := by decide
theorem single_binade : single.binade = 8388608 := by decide
theorem single_inf : single.infRung = 2139095040 := by decide
theorem single_sign : single.signWeight = 2147483648 := by decide

theorem signed_natAbs (s : Bool) (m k : Nat) : (signed s m k).natAbs = m * 2 ^ k := by
  unfold signed
  rw [shl]
  cases s
  · simp only [Bool.false_eq_true, if_false]; exact Int.natAbs_natCast _
  · simp only [if_true]; rw [Int.natAbs_neg]; exact Int.natAbs_natCast _

theorem fit_of_least (f : Format) (h : -1074 ≤ f.leastPlace) (x : Nat) : Fit (f.read x) := by
  simp only [Format.read]
  split
  · exact h
  · split
    · show (-1074 : Int) ≤ _; omega
    · split <;> exact trivial

theorem fit32 (x : Nat) : Fit (single.read x) := fit_of_least _ (by rw [single_least]; omega) x
theorem fit64 (x : Nat) : Fit (double.read x) := fit_of_least _ (by rw [double_least]; omega) x

/-- The finite words of the narrower format. -/
theorem shape32 {x : Nat} {s : Bool} {m : Nat} {i : Int} (h : single.read x = .number s m i) : m < 16777216 ∧ -149 ≤ i ∧ i ≤ 104 := by
  simp only [Format.read, single_least, single_binade, single_inf, single_sign] at h
  split at h
  · injection h with _ h2 h3; omega
  · split at h
    · injection h with _ h2 h3; omega
    · split at h <;> cases h

/-- A float that is so great is whole. -/
theorem whole32 {x : Nat} {v : Int} (h : sc (single.read x) = some v) (hv : 16777216 * U ≤ v.natAbs) : Int.tdiv v (U : Int) * (U : Int) = v := by
  cases hd : single.read x with
  | number s m i =>
    rw [hd] at h
    simp only [sc, Option.some.injEq] at h
    subst h
    obtain ⟨hm, hi, _⟩ := shape32 hd
    rw [signed_natAbs] at hv
    by_cases h0 : 0 ≤ i
    · have e : (i + 1074).toNat = i.toNat + K := by rw [K_eq]; omega
      rw [e, signed_add]
      unfold U
      rw [Int.mul_tdiv_cancel _ (by have := Nat.two_pow_pos K; omega)]
    · exfalso
      have h1 : 2 ^ (i + 1074).toNat ≤ U := Nat.pow_le_pow_right (by omega) (by rw [K_eq]; omega)
      have h2 : m * 2 ^ (i + 1074).toNat ≤ m * U := Nat.mul_le_mul_left _ h1
      have h3 : m * U < 16777216 * U := Nat.mul_lt_mul_of_pos_right hm U_pos
      omega
  | infinity _ => rw [hd] at h; simp [sc] at h
  | nan _ _ => rw [hd] at h; simp [sc] at h

theorem signed_int (n : Int) (k : Nat) : signed (decide (n < 0)) n.natAbs k = n * ((2 ^ k : Nat) : Int) := by
  have := signed_add (decide (n < 0)) n.natAbs 0 k
  rw [Nat.zero_add] at this
  rw [this]
  congr 1
  unfold signed
  rw [shl, Nat.pow_zero, Nat.mul_one]
  by_cases h : n < 0 <;> simp only [h, decide_true, decide_false, if_true, Bool.false_eq_true, if_false] <;> omega

theorem read_zero (f : Format) : f.read 0 = .number false 0 f.leastPlace := by
  have hb : 0 < f.binade := Nat.two_pow_pos _
  simp only [Format.read, Nat.zero_div, Nat.zero_mod, if_pos hb]
  rfl

theorem log2_le_of_lt {n k : Nat} (h : n < 2 ^ (k + 1)) (hn : n ≠ 0) : n.log2 ≤ k := by
  have := (Nat.log2_lt hn).2 h
  omega

/-- float32(n), float64(n) of small whole numbers are exact. -/
theorem sc_f32 (n : Int) (h : n.natAbs < 16777216) : sc (single.read (floatOfInt .f32 n)) = some (n * (U : Int)) := by
  unfold floatOfInt FloatKind.nearest FloatKind.encode
  show sc (single.read (single.nearest (decide (n < 0)) n.natAbs 0)) = _
  by_cases h0 : n = 0
  · subst h0
    show sc (single.read 0) = _
    rw [read_zero]
    simp [sc, signed]
  · have hL : n.natAbs.log2 ≤ 23 := log2_le_of_lt (by omega) (by omega)
    have h1 := (sc_nearest single (decide (n < 0)) n.natAbs 0 (by omega) hL (by rw [single_least]; show (-149 : Int) ≤ 0 + (n.natAbs.log2 : Int) - (23 : Nat); omega) (by rw [single_least]; show (0 : Int) + (n.natAbs.log2 : Int) - (23 : Nat) - -149 + 2 ≤ ((255 : Nat) : Int); omega) (by rw [single_least]; omega)).1
    have e : ((0 : Int) + 1074).toNat = K := by rw [K_eq]; omega
    rw [h1, signed_int, e]
    unfold U
    rfl

theorem sc_f64 (n : Int) (h : n.natAbs < 9007199254740992) : sc (double.read (floatOfInt .f64 n)) = some (n * (U : Int)) := by
  unfold floatOfInt FloatKind.nearest FloatKind.encode
  show sc (double.read (double.nearest (decide (n < 0)) n.natAbs 0)) = _
  by_cases h0 : n = 0
  · subst h0
    show sc (double.read 0) = _
    rw [read_zero]
    simp [sc, signed]
  · have hL : n.natAbs.log2 ≤ 52 := log2_le_of_lt (by omega) (by omega)
    have h1 := (sc_nearest double (decide (n < 0)) n.natAbs 0 (by omega) hL (by rw [double_least]; show (-1074 : Int) ≤ 0 + (n.natAbs.log2 : Int) - (52 : Nat); omega) (by rw [double_least]; show (0 : Int) + (n.natAbs.log2 : Int) - (52 : Nat) - -1074 + 2 ≤ ((2047 : Nat) : Int); omega) (by rw [double_least]; omega)).1
    have e : ((0 : Int) + 1074).toNat = K := by rw [K_eq]; omega
    rw [h1, signed_int, e]
    unfold U
    rfl

/-- Widening keeps the number. -/
theorem widen (s : Bool) (m : Nat) (i : Int) (hm : m < 16777216) (h1 : -149 ≤ i) (h2 : i ≤ 104) :
    sc (double.read (FloatKind.encode .f64 (.number s m i))) = some (signed s m (i + 1074).toNat) ∧ (double.read (FloatKind.encode .f64 (.number s m i))).isInfinity = false := by
  show sc (double.read (double.nearest s m i)) = _ ∧ (double.read (double.nearest s m i)).isInfinity = false
  by_cases h0 : m = 0
  · subst h0
    have e : double.read (double.nearest s 0 i) = .number s 0 (-1074) := by
      show double.read (double.word s 0) = _
      rw [read_word double s 0 (Nat.two_pow_pos _), if_pos (show 0 < double.binade from Nat.two_pow_pos _), double_least]
    rw [e]
    refine ⟨?_, rfl⟩
    simp [sc, signed]
  · have hL : m.log2 ≤ 23 := log2_le_of_lt (by omega) h0
    have g1 : m.log2 ≤ double.fractionBits := by show m.log2 ≤ 52; omega
    have g2 : double.leastPlace ≤ i + m.log2 - double.fractionBits := by rw [double_least]; show (-1074 : Int) ≤ i + (m.log2 : Int) - (52 : Nat); omega
    have g3 : i + m.log2 - double.fractionBits - double.leastPlace + 2 ≤ ((2 ^ double.exponentBits - 1 : Nat) : Int) := by rw [double_least]; show i + (m.log2 : Int) - (52 : Nat) - -1074 + 2 ≤ ((2047 : Nat) : Int); omega
    refine ⟨(sc_nearest double s m i h0 g1 g2 g3 (by rw [double_least]; omega)).1, ?_⟩
    rw [nearest_exact double s m i h0 g1 g2 g3]
    rfl

/-- x - x of a finite number. -/
theorem sub_self_num (f : Format) {x : Nat} {s : Bool} {m : Nat} {i : Int} (h : f.read x = .number s m i) : f.sub x x = some 0 := by
  have hs : ∀ k, signed s m k + signed (!s) m k = 0 := by intro k; unfold signed; cases s <;> simp <;> omega
  simp only [Format.sub, h, Datum.opposite, Datum.sum, Int.min_self, hs, if_true, Option.map_some, Option.some.injEq]
  show f.nearest _ 0 _ = 0
  cases s <;> rfl

theorem log2_shift (m k : Nat) (hm : m ≠ 0) : (m * 2 ^ k).log2 = m.log2 + k := by
  have h0 : m * 2 ^ k ≠ 0 := Nat.mul_ne_zero hm (Nat.pos_iff_ne_zero.1 (Nat.two_pow_pos _))
  refine (Nat.log2_eq_iff h0).2 ⟨?_, ?_⟩
  · rw [Nat.pow_add]; exact Nat.mul_le_mul_right _ (Nat.log2_self_le hm)
  · rw [show m.log2 + k + 1 = m.log2 + 1 + k by omega, Nat.pow_add]
    exact Nat.mul_lt_mul_of_pos_right Nat.lt_log2_self (Nat.two_pow_pos _)

theorem cut_even_exact (neg : Bool) (a d : Nat) (ha : a ≠ 0) : Toward.even.cut neg (a * 2 ^ d) d = a := by
  simp only [Toward.cut]
  rw [log2_shift a d ha, Nat.min_eq_left (by omega), shl, Nat.one_mul, Nat.mul_div_cancel _ (Nat.two_pow_pos _), Nat.mul_mod_left]
  have h1 : decide (2 ^ d < 2 * 0) = false := by simp
  have h2 : (2 ^ d == 2 * 0) = false := by simp
  rw [h1, h2]; simp

/-- A number written with zeros at its end. -/
theorem nearest_shift (f : Format) (neg : Bool) (m k : Nat) (place : Int) (hm : m ≠ 0) (hL : m.log2 ≤ f.fractionBits) (hlo : f.leastPlace ≤ place + k + m.log2 - f.fractionBits) :
    f.nearest neg (m * 2 ^ k) place = f.nearest neg m (place + k) := by
  have h0 : m * 2 ^ k ≠ 0 := Nat.mul_ne_zero hm (Nat.pos_iff_ne_zero.1 (Nat.two_pow_pos _))
  simp only [Format.nearest, if_neg h0, if_neg hm, log2_shift m k hm]
  have hl1 : max (place + ((m.log2 + k : Nat) : Int) - f.fractionBits) f.leastPlace = place + k + m.log2 - f.fractionBits := by omega
  have hl2 : max (place + (k : Int) + (m.log2 : Int) - f.fractionBits) f.leastPlace = place + k + m.log2 - f.fractionBits := by omega
  rw [hl1, hl2]
  have e2 : (place + (k : Int) + (m.log2 : Int) - f.fractionBits - (place + k)).toNat = 0 := by omega
  have e1 : (place + (k : Int) - (place + (k : Int) + (m.log2 : Int) - f.fractionBits)).toNat = f.fractionBits - m.log2 := by omega
  rw [e2, e1, cut_even_zero]
  have key : Toward.even.cut neg ((m * 2 ^ k) <<< (place - (place + (k : Int) + (m.log2 : Int) - f.fractionBits)).toNat) (place + (k : Int) + (m.log2 : Int) - f.fractionBits - place).toNat = m <<< (f.fractionBits - m.log2) := by
    rw [shl, shl]
    by_cases h : k + m.log2 ≤ f.fractionBits
    · have e3 : (place + (k : Int) + (m.log2 : Int) - f.fractionBits - place).toNat = 0 := by omega
      have e4 : (place - (place + (k : Int) + (m.log2 : Int) - f.fractionBits)).toNat = f.fractionBits - m.log2 - k := by omega
      rw [e3, e4, cut_even_zero, Nat.mul_assoc, ← Nat.pow_add]
      congr 2; omega
    · have e3 : (place + (k : Int) + (m.log2 : Int) - f.fractionBits - place).toNat = k + m.log2 - f.fractionBits := by omega
      have e4 : (place - (place + (k : Int) + (m.log2 : Int) - f.fractionBits)).toNat = 0 := by omega
      rw [e3, e4, Nat.pow_zero, Nat.mul_one]
      have e5 : m * 2 ^ k = (m * 2 ^ (f.fractionBits - m.log2)) * 2 ^ (k + m.log2 - f.fractionBits) := by
        rw [Nat.mul_assoc, ← Nat.pow_add]; congr 2; omega
      rw [e5, cut_even_exact _ _ _ (Nat.mul_ne_zero hm (Nat.pos_iff_ne_zero.1 (Nat.two_pow_pos _)))]
  rw [key]

/-- float64(n) of a whole number that is a float32 is exact. -/
theorem sc_f64_wide (s : Bool) (m k : Nat) (hm : m < 16777216) (hk : k ≤ 104) : sc (double.read (floatOfInt .f64 (signed s m k))) = some (signed s m k * (U : Int)) := by
  by_cases h0 : m = 0
  · subst h0
    have e : signed s 0 k = 0 := by simp [signed]
    rw [e]
    exact sc_f64 0 (by decide)
  · have hp : 0 < m * 2 ^ k := Nat.mul_pos (by omega) (Nat.two_pow_pos _)
    have hneg : decide (signed s m k < 0) = s := by
      unfold signed; rw [shl]; cases s
      · simp only [Bool.false_eq_true, if_false, decide_eq_false_iff_not]; omega
      · simp only [if_true, decide_eq_true_eq]; omega
    have hL : m.log2 ≤ 23 := log2_le_of_lt (by omega) h0
    have g1 : m.log2 ≤ double.fractionBits := by show m.log2 ≤ 52; omega
    have g2 : double.leastPlace ≤ 0 + (k : Int) + m.log2 - double.fractionBits := by rw [double_least]; show (-1074 : Int) ≤ 0 + (k : Int) + (m.log2 : Int) - (52 : Nat); omega
    have g3 : 0 + (k : Int) + m.log2 - double.fractionBits - double.leastPlace + 2 ≤ ((2 ^ double.exponentBits - 1 : Nat) : Int) := by rw [double_least]; show 0 + (k : Int) + (m.log2 : Int) - (52 : Nat) - -1074 + 2 ≤ ((2047 : Nat) : Int); omega
    unfold floatOfInt FloatKind.nearest FloatKind.encode
    show sc (double.read (double.nearest (decide (signed s m k < 0)) (signed s m k).natAbs 0)) = _
    rw [hneg, signed_natAbs, nearest_shift double s m k 0 h0 g1 g2, (sc_nearest double s m (0 + k) h0 g1 g2 g3 (by rw [double_least]; omega)).1]
    have e : ((0 : Int) + (k : Int) + 1074).toNat = k + K := by rw [K_eq]; omega
    rw [e, signed_add]
    unfold U
    rfl

end Go.Cpl
