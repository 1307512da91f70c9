/- Plain facts on samples: what a float32 word comes to in chapter 3 (its whole number, its error), and how each test of the program and of the reference reads on it. -/
import Derived.Test.YtcijkniijomcjaaFloats
namespace Go.Cpl
open Ieee

/-- The number of a float32 word in units, if it is finite. -/
def fv (x : Nat) : Option Int := sc (single.read x)
/-- Its whole part. -/
def num (x : Nat) : Int := Int.tdiv ((fv x).getD 0) (U : Int)
/-- The error of a sample. -/
def sErr (x : Nat) : Int :=
  match fv x with
  | none => 25
  | some v => if Int.tdiv v (U : Int) * (U : Int) = v then (if -2047 ≤ Int.tdiv v (U : Int) ∧ Int.tdiv v (U : Int) ≤ 2047 then 0 else 2) else 25

theorem cmp_lt {a b : Int} : (some (compare a b) == some Ordering.lt) = decide (a < b) := by
  simp only [compare, compareOfLessAndEq]
  by_cases h : a < b
  · simp [h]
  · by_cases h2 : a = b <;> simp [h, h2]
theorem cmp_eq {a b : Int} : (some (compare a b) == some Ordering.eq) = decide (a = b) := by
  simp only [compare, compareOfLessAndEq]
  by_cases h : a < b
  · have : ¬ a = b := by omega
    simp [h, this]
  · by_cases h2 : a = b
    · simp [h2]
    · simp [h, h2]
theorem cmp_gt {a b : Int} : (some (compare a b) == some Ordering.gt) = decide (b < a) := by
  simp only [compare, compareOfLessAndEq]
  by_cases h : a < b
  · have : ¬ b < a := by omega
    simp [h, this]
  · by_cases h2 : a = b
    · simp [h2]
    · have : b < a := by omega
      simp [h, h2, this]

/-- Order of two finite words of one format. -/
theorem ord {f : Format} (hf : -1074 ≤ f.leastPlace) {x y : Nat} {a b : Int} (hx : sc (f.read x) = some a) (hy : sc (f.read y) = some b) : f.order x y = some (compare a b) :=
  order_sc (fit_of_least f hf x) (fit_of_least f hf y) hx hy
theorem ord32 {x y : Nat} {a b : Int} (hx : fv x = some a) (hy : fv y = some b) : FloatKind.f32.format.order x y = some (compare a b) := ord (f := single) (by rw [single_least]; omega) hx hy
theorem ord64 {x y : Nat} {a b : Int} (hx : sc (double.read x) = some a) (hy : sc (double.read y) = some b) : FloatKind.f64.format.order x y = some (compare a b) := ord (f := double) (by rw [double_least]; omega) hx hy

theorem ord_nan_left {f : Format} {x y : Nat} {s : Bool} {t : Nat} (hx : f.read x = .nan s t) : f.order x y = none := by
  simp [Format.order, hx, Datum.order]

theorem natAbs_tdiv (v : Int) : (Int.tdiv v (U : Int)).natAbs = v.natAbs / U := by rw [Int.natAbs_tdiv, Int.natAbs_natCast]; rfl

theorem toInt32 {x : Nat} {v : Int} (h : fv x = some v) (hv : v.natAbs < 16777216 * U) : floatToIntVal .f32 x .i64 = some (num x) := by
  unfold floatToIntVal FloatKind.decode FloatKind.format
  rw [toInt_sc (fit32 x) h]
  have h1 : (Int.tdiv v (U : Int)).natAbs < 16777216 := by
    rw [natAbs_tdiv]; exact Nat.div_lt_of_lt_mul (by rw [Nat.mul_comm]; exact hv)
  have hm : IntKind.i64.min = -9223372036854775808 := by decide
  have hM : IntKind.i64.max = 9223372036854775807 := by decide
  simp only [num, h, Option.getD_some]
  rw [if_pos (by rw [hm, hM]; omega)]

theorem num_bound {x : Nat} {v : Int} (h : fv x = some v) (hv : v.natAbs < 16777216 * U) : (num x).natAbs < 16777216 := by
  simp only [num, h, Option.getD_some]
  rw [natAbs_tdiv]; exact Nat.div_lt_of_lt_mul (by rw [Nat.mul_comm]; exact hv)

theorem fv_num (n : Int) (h : n.natAbs < 16777216) : fv (floatOfInt .f32 n) = some (n * (U : Int)) := sc_f32 n h

theorem num_of (n : Int) (h : n.natAbs < 16777216) : num (floatOfInt .f32 n) = n := by
  simp only [num, fv_num n h, Option.getD_some]
  exact Int.mul_tdiv_cancel _ (by have := U_pos; omega)

theorem sErr_of (n : Int) (h : n.natAbs < 16777216) : sErr (floatOfInt .f32 n) = if -2047 ≤ n ∧ n ≤ 2047 then 0 else 2 := by
  unfold sErr
  rw [fv_num n h]
  have e : Int.tdiv (n * (U : Int)) (U : Int) = n := Int.mul_tdiv_cancel _ (by have := U_pos; omega)
  simp only [e, if_true]

theorem sErr_cases (x : Nat) : sErr x = 0 ∨ sErr x = 2 ∨ sErr x = 25 := by
  unfold sErr
  split
  · exact .inr (.inr rfl)
  · split
    · split
      · exact .inl rfl
      · exact .inr (.inl rfl)
    · exact .inr (.inr rfl)

/-- A right sample is finite, whole and small. -/
theorem sErr_zero {x : Nat} (h : sErr x = 0) : fv x = some (num x * (U : Int)) ∧ -2047 ≤ num x ∧ num x ≤ 2047 := by
  unfold sErr at h
  cases hf : fv x with
  | none => rw [hf] at h; cases h
  | some v =>
    rw [hf] at h
    simp only [num, hf, Option.getD_some]
    by_cases h1 : Int.tdiv v (U : Int) * (U : Int) = v
    · simp only [h1, if_true] at h
      by_cases h2 : -2047 ≤ Int.tdiv v (U : Int) ∧ Int.tdiv v (U : Int) ≤ 2047
      · exact ⟨by rw [h1], h2⟩
      · rw [if_neg h2] at h; cases h
    · simp [h1] at h

theorem toInt_right {x : Nat} (h : sErr x = 0) : floatToIntVal .f32 x .i64 = some (num x) := by
  obtain ⟨h1, h2, h3⟩ := sErr_zero h
  refine toInt32 h1 ?_
  rw [Int.natAbs_mul, Int.natAbs_natCast]
  exact Nat.mul_lt_mul_of_pos_right (by omega) U_pos

/-- Constants of the text. -/
theorem fv_24 : fv 1266679808 = some (16777216 * (U : Int)) := by
  have e : single.read 1266679808 = .number false 8388608 1 := by decide
  unfold fv; rw [e]
  simp only [sc, Option.some.injEq]
  have e1 : ((1 : Int) + 1074).toNat = 1 + K := by rw [K_eq]; omega
  rw [e1, signed_add]; unfold U; rfl
theorem fv_m24 : fv 3414163456 = some (-16777216 * (U : Int)) := by
  have e : single.read 3414163456 = .number true 8388608 1 := by decide
  unfold fv; rw [e]
  simp only [sc, Option.some.injEq]
  have e1 : ((1 : Int) + 1074).toNat = 1 + K := by rw [K_eq]; omega
  rw [e1, signed_add]; unfold U; rfl
theorem fv_2047 : fv 1157619712 = some (2047 * (U : Int)) := by
  have e : 1157619712 = floatOfInt .f32 2047 := by decide
  rw [e]; exact fv_num 2047 (by decide)
theorem fv_m2047 : fv 3305103360 = some (-2047 * (U : Int)) := by
  have e : 3305103360 = floatOfInt .f32 (-2047) := by decide
  rw [e]; exact fv_num (-2047) (by decide)
theorem fv_0 : fv 0 = some 0 := by
  have e : 0 = floatOfInt .f32 0 := by decide
  conv => lhs; rw [e]
  rw [fv_num 0 (by decide)]; simp
theorem d_e16 : sc (double.read 4846369599423283200) = some (10000000000000000 * (U : Int)) := by
  have e : double.read 4846369599423283200 = .number false 5000000000000000 1 := by decide
  rw [e]
  simp only [sc, Option.some.injEq]
  have e1 : ((1 : Int) + 1074).toNat = 1 + K := by rw [K_eq]; omega
  rw [e1, signed_add]; unfold U; rfl
theorem d_me16 : sc (double.read 14069741636278059008) = some (-10000000000000000 * (U : Int)) := by
  have e : double.read 14069741636278059008 = .number true 5000000000000000 1 := by decide
  rw [e]
  simp only [sc, Option.some.injEq]
  have e1 : ((1 : Int) + 1074).toNat = 1 + K := by rw [K_eq]; omega
  rw [e1, signed_add]; unfold U; rfl

end Go.Cpl
