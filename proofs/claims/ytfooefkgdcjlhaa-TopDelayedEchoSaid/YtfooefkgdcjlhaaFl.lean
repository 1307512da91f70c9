/- Comparisons of floats that are whole numbers; the other sign. -/
import Derived.Test.YtfooefkgdcjlhaaLeaf
import Derived.Test.YtfooefkgdcjlhaaKit
namespace Go.Proofs.Ytfooefkgdcjlhaa
open Go.RowKit Go.Cpl
open Ieee

theorem neg_word (x : Nat) : (x ^^^ 2 ^ 31) % 2 ^ 31 = x % 2 ^ 31 ∧ (x ^^^ 2 ^ 31) / 2 ^ 31 % 2 = 1 - x / 2 ^ 31 % 2 := by
  constructor
  · rw [Nat.xor_mod_two_pow, Nat.mod_self, Nat.xor_zero]
  · rw [Nat.xor_div_two_pow, Nat.div_self (Nat.two_pow_pos _)]
    have := Nat.xor_mod_two_pow (a := x / 2 ^ 31) (b := 1) (n := 1)
    rw [Nat.pow_one] at this
    rw [this]
    rcases Nat.mod_two_eq_zero_or_one (x / 2 ^ 31) with h | h <;> rw [h] <;> rfl
theorem fv_neg {x : Nat} {v : Int} (h : fv x = some v) : fv (Op.negFloat .f32 x) = some (-v) := by
  have e : Op.negFloat .f32 x = x ^^^ 2 ^ 31 := rfl
  obtain ⟨h1, h2⟩ := neg_word x
  have hs : single.signWeight = 2 ^ 31 := by decide
  unfold fv at *
  rw [e]
  simp only [Format.read, hs] at h ⊢
  rw [h1, h2]
  have sg : ∀ (s : Bool) (m k : Nat), signed (!s) m k = -signed s m k := by intro s m k; cases s <;> simp [signed]
  have hb : (1 - x / 2 ^ 31 % 2 == 1) = !(x / 2 ^ 31 % 2 == 1) := by rcases Nat.mod_two_eq_zero_or_one (x / 2 ^ 31) with q | q <;> rw [q] <;> rfl
  rw [hb]
  by_cases c1 : x % 2 ^ 31 < single.binade
  · rw [if_pos c1] at h ⊢
    simp only [sc, Option.some.injEq] at h ⊢
    rw [← h]; exact sg _ _ _
  · rw [if_neg c1] at h ⊢
    by_cases c2 : x % 2 ^ 31 < single.infRung
    · rw [if_pos c2] at h ⊢
      simp only [sc, Option.some.injEq] at h ⊢
      rw [← h]; exact sg _ _ _
    · rw [if_neg c2] at h
      split at h <;> simp [sc] at h

theorem U_ne : (U : Int) ≠ 0 := by have := U_pos; omega
theorem mulU {a b : Int} : (a * (U : Int) = b * (U : Int)) ↔ a = b := ⟨fun h => Int.eq_of_mul_eq_mul_right U_ne h, fun h => by rw [h]⟩
section
variable {P : Program}
theorem q_flt {op : BinOp} {t : TypeId} {x y : Nat} {u v : Int} (hx : fv x = some (u * (U : Int))) (hy : fv y = some (v * (U : Int))) (w : World) :
    (binOp .neq t (.float .f32 x) (.float .f32 y)).run P w = .ok (.bool (decide (u ≠ v))) w ∧ (binOp .eql t (.float .f32 x) (.float .f32 y)).run P w = .ok (.bool (decide (u = v))) w := by
  have _ := op
  constructor
  · show Result.ok (Value.bool (FloatKind.f32.format.order x y != some .eq)) w = _
    rw [s_neq hx hy]
    congr 2
    rw [decide_eq_decide, ne_eq, mulU]
  · show Result.ok (Value.bool (FloatKind.f32.format.order x y == some .eq)) w = _
    rw [s_eql hx hy]
    congr 2
    rw [decide_eq_decide, mulU]
theorem f_neq {t : TypeId} {u v : Int} (hu : u.natAbs < 16777216) (hv : v.natAbs < 16777216) (w : World) : (binOp .neq t (.float .f32 (floatOfInt .f32 u)) (.float .f32 (floatOfInt .f32 v))).run P w = .ok (.bool (decide (u ≠ v))) w := (q_flt (op := .neq) (fv_num u hu) (fv_num v hv) w).1
theorem f_eql {t : TypeId} {u v : Int} (hu : u.natAbs < 16777216) (hv : v.natAbs < 16777216) (w : World) : (binOp .eql t (.float .f32 (floatOfInt .f32 u)) (.float .f32 (floatOfInt .f32 v))).run P w = .ok (.bool (decide (u = v))) w := (q_flt (op := .eql) (fv_num u hu) (fv_num v hv) w).2
theorem f_neqn {t : TypeId} {u v : Int} (hu : u.natAbs < 16777216) (hv : v.natAbs < 16777216) (w : World) : (binOp .neq t (.float .f32 (floatOfInt .f32 u)) (.float .f32 (Op.negFloat .f32 (floatOfInt .f32 v)))).run P w = .ok (.bool (decide (u ≠ -v))) w :=
  (q_flt (op := .neq) (fv_num u hu) (by rw [fv_neg (fv_num v hv), Int.neg_mul]) w).1
end
end Go.Proofs.Ytfooefkgdcjlhaa
