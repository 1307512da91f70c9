/- Sums of float32 numbers that are whole and small are exact. -/
import Derived.Test.YtfooefkgdcjlhaaFl
import Derived.Laws.ComplexArith
namespace Go.Proofs.Ytfooefkgdcjlhaa
open Go.RowKit Go.Cpl
open Ieee

theorem read_num {x : Nat} {v : Int} (h : fv x = some v) : ∃ s m i, single.read x = .number s m i ∧ signed s m (i + 1074).toNat = v ∧ -149 ≤ i ∧ i ≤ 104 := by
  cases hd : single.read x with
  | number s m i =>
    obtain ⟨_, h1, h2⟩ := shape32 hd
    unfold fv at h
    rw [hd] at h
    simp only [sc, Option.some.injEq] at h
    exact ⟨s, m, i, rfl, h, h1, h2⟩
  | infinity _ => unfold fv at h; rw [hd] at h; simp [sc] at h
  | nan _ _ => unfold fv at h; rw [hd] at h; simp [sc] at h
theorem fv_zeroW (neg : Bool) : fv (single.word neg 0) = some 0 := by
  unfold fv
  rw [read_word _ _ _ (by decide), if_pos (by decide)]
  cases neg <;> simp [sc, signed]
theorem near_zero (neg : Bool) (p : Int) : single.nearest neg 0 p = single.word neg 0 := by simp [Format.nearest]

theorem f_add (a b : Int) (ha : a.natAbs < 8388608) (hb : b.natAbs < 8388608) : ∃ r, single.add (floatOfInt .f32 a) (floatOfInt .f32 b) = some r ∧ fv r = some ((a + b) * (U : Int)) := by
  obtain ⟨s, m, i, hx, sx, i1, i2⟩ := read_num (fv_num a (by omega))
  obtain ⟨t, n, j, hy, sy, j1, j2⟩ := read_num (fv_num b (by omega))
  generalize hbase : min i j = base
  generalize htot : signed s m (i - base).toNat + signed t n (j - base).toNat = total
  have hb1 : -149 ≤ base := by omega
  have hb2 : base ≤ 104 := by omega
  have key : total * ((2 ^ (base + 1074).toNat : Nat) : Int) = (a + b) * (U : Int) := by
    rw [← htot, Int.add_mul, ← signed_add, ← signed_add, show (i - base).toNat + (base + 1074).toNat = (i + 1074).toNat by omega, show (j - base).toNat + (base + 1074).toNat = (j + 1074).toNat by omega, sx, sy, Int.add_mul]
  have hU : U = 2 ^ K := rfl
  have hadd : single.add (floatOfInt .f32 a) (floatOfInt .f32 b) = some (single.nearest (if total = 0 then s && t else decide (total < 0)) total.natAbs base) := by
    unfold Format.add
    rw [hx, hy]
    simp only [Datum.sum, Option.map_some, hbase, htot]
    rfl
  refine ⟨_, hadd, ?_⟩
  have hpp : (0 : Int) < ((2 ^ (base + 1074).toNat : Nat) : Int) := by have := Nat.two_pow_pos (base + 1074).toNat; omega
  by_cases h0 : total = 0
  · have hc : (a + b) * (U : Int) = 0 := by rw [← key, h0, Int.zero_mul]
    rw [hc, if_pos h0, h0, Int.natAbs_zero, near_zero]
    exact fv_zeroW _
  · rw [if_neg h0]
    by_cases hb0 : base ≤ 0
    · have e1 : total = (a + b) * ((2 ^ (-base).toNat : Nat) : Int) := by
        apply Int.eq_of_mul_eq_mul_right (Int.ne_of_gt hpp)
        rw [key, Int.mul_assoc, hU, ← Int.natCast_mul, ← Nat.pow_add, show (-base).toNat + (base + 1074).toNat = K by rw [K_eq]; omega]
      have hk0 : (0 : Int) < ((2 ^ (-base).toNat : Nat) : Int) := by have := Nat.two_pow_pos (-base).toNat; omega
      have hc0 : a + b ≠ 0 := fun h => h0 (by rw [e1, h, Int.zero_mul])
      have e2 : total.natAbs = (a + b).natAbs * 2 ^ (-base).toNat := by rw [e1, Int.natAbs_mul, Int.natAbs_natCast]
      have e3 : decide (total < 0) = decide (a + b < 0) := by
        rw [decide_eq_decide, e1]
        constructor
        · intro h
          by_cases q : a + b < 0
          · exact q
          · have := Int.mul_nonneg (show 0 ≤ a + b by omega) (Int.le_of_lt hk0); omega
        · intro h; exact Int.mul_neg_of_neg_of_pos h hk0
      have hL : (a + b).natAbs.log2 ≤ 23 := log2_le_of_lt (by omega) (by omega)
      rw [e2, e3, nearest_shift single _ (a + b).natAbs (-base).toNat base (by omega) hL (by rw [single_least]; show (-149 : Int) ≤ base + ((-base).toNat : Int) + ((a + b).natAbs.log2 : Int) - (23 : Nat); omega), show base + ((-base).toNat : Int) = 0 by omega]
      exact fv_num (a + b) (by omega)
    · have e1 : a + b = total * ((2 ^ base.toNat : Nat) : Int) := by
        apply Int.eq_of_mul_eq_mul_right (Int.ne_of_gt (show (0 : Int) < (U : Int) by have := U_pos; omega))
        rw [← key, Int.mul_assoc, hU, ← Int.natCast_mul, ← Nat.pow_add, show base.toNat + K = (base + 1074).toNat by rw [K_eq]; omega]
      have e2 : (a + b).natAbs = total.natAbs * 2 ^ base.toNat := by rw [e1, Int.natAbs_mul, Int.natAbs_natCast]
      have hle : total.natAbs ≤ (a + b).natAbs := by rw [e2]; exact Nat.le_mul_of_pos_right _ (Nat.two_pow_pos _)
      have hL : total.natAbs.log2 ≤ 23 := log2_le_of_lt (by omega) (by omega)
      have := (sc_nearest single (decide (total < 0)) total.natAbs base (by omega) hL (by rw [single_least]; show (-149 : Int) ≤ base + (total.natAbs.log2 : Int) - (23 : Nat); omega) (by rw [single_least]; show base + (total.natAbs.log2 : Int) - (23 : Nat) - -149 + 2 ≤ ((255 : Nat) : Int); omega) (by rw [single_least]; omega)).1
      unfold fv
      rw [this, signed_int, key]

/-- The word of a sum. -/
def fadd (a b : Int) : Nat := (single.add (floatOfInt .f32 a) (floatOfInt .f32 b)).getD 0
theorem fadd_fv {a b : Int} (ha : a.natAbs < 8388608) (hb : b.natAbs < 8388608) : fv (fadd a b) = some ((a + b) * (U : Int)) := by
  obtain ⟨r, h1, h2⟩ := f_add a b ha hb
  unfold fadd; rw [h1]; exact h2
section
variable {P : Program}
theorem c_add {t : TypeId} {a b c d : Int} (ha : a.natAbs < 8388608) (hb : b.natAbs < 8388608) (hc : c.natAbs < 8388608) (hd : d.natAbs < 8388608) (w : World) :
    (binOp .add t (.complex .f32 (floatOfInt .f32 a) (floatOfInt .f32 b)) (.complex .f32 (floatOfInt .f32 c) (floatOfInt .f32 d))).run P w = .ok (.complex .f32 (fadd a c) (fadd b d)) w := by
  obtain ⟨r1, h1, _⟩ := f_add a c ha hc
  obtain ⟨r2, h2, _⟩ := f_add b d hb hd
  have e1 : fadd a c = r1 := by unfold fadd; rw [h1]; rfl
  have e2 : fadd b d = r2 := by unfold fadd; rw [h2]; rfl
  rw [e1, e2]
  refine run_complex_sum w .add (.inl rfl) t .f32 _ _ _ _ r1 r2 ?_
  have q1 : floatBits .add .f32 (floatOfInt .f32 a) (floatOfInt .f32 c) = some r1 := h1
  have q2 : floatBits .add .f32 (floatOfInt .f32 b) (floatOfInt .f32 d) = some r2 := h2
  simp [cSumBits, q1, q2]
/-- Complex numbers with whole parts, compared. -/
theorem c_neq {t : TypeId} {x y x' y' : Nat} {a b c d : Int} (h1 : fv x = some (a * (U : Int))) (h2 : fv y = some (b * (U : Int))) (h3 : fv x' = some (c * (U : Int))) (h4 : fv y' = some (d * (U : Int))) (w : World) :
    (binOp .neq t (.complex .f32 x y) (.complex .f32 x' y')).run P w = .ok (.bool (decide ((a, b) ≠ (c, d)))) w := by
  have e : (binOp .neq t (.complex .f32 x y) (.complex .f32 x' y')).run P w = .ok (.bool (!(Op.floatEq .f32 x x' && Op.floatEq .f32 y y'))) w := by
    simp [binOp, Op.complexOp, Op.Complex.cmp, Op.floatCmp, asBool, Op.floatEq]
  rw [e]
  congr 2
  unfold Op.floatEq
  rw [s_eql h1 h3, s_eql h2 h4]
  have m1 : decide (a * (U : Int) = c * (U : Int)) = decide (a = c) := by rw [decide_eq_decide]; exact mulU
  have m2 : decide (b * (U : Int) = d * (U : Int)) = decide (b = d) := by rw [decide_eq_decide]; exact mulU
  rw [m1, m2]
  by_cases q1 : a = c <;> by_cases q2 : b = d <;> simp [q1, q2]
end
end Go.Proofs.Ytfooefkgdcjlhaa
