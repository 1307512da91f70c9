import Derived.Test.YtfeapeblnnmhlaaArr
import Derived.Laws.Bits64b
import Derived.Laws.Entries
/-! Unsigned numbers of 64 bits. -/
namespace Go.Proofs.Ytfeapeblnnmhlaa
open Go.RowKit Go.Cpl
section
variable {P : Program}
theorem u_mulW {t : TypeId} {x y : Int} (w : World) : (binOp .mul t (.int .u64 x) (.int .u64 y)).run P w = .ok (.int .u64 (x * y % 18446744073709551616)) w := by
  show Result.ok (Value.int .u64 (IntKind.u64.wrap (x * y))) w = _; rw [IntKind.wrap_u64]
theorem u_mul {t : TypeId} {x y : Int} (h : 0 ≤ x * y ∧ x * y < 18446744073709551616) (w : World) : (binOp .mul t (.int .u64 x) (.int .u64 y)).run P w = .ok (.int .u64 (x * y)) w := by
  rw [u_mulW, Int.emod_eq_of_lt h.1 h.2]
theorem u_add {t : TypeId} {x y : Int} (h : 0 ≤ x + y ∧ x + y < 18446744073709551616) (w : World) : (binOp .add t (.int .u64 x) (.int .u64 y)).run P w = .ok (.int .u64 (x + y)) w := by
  show Result.ok (Value.int .u64 (IntKind.u64.wrap (x + y))) w = _; rw [IntKind.wrap_u64, Int.emod_eq_of_lt h.1 h.2]
theorem u_and {t : TypeId} {x : Int} (h : 0 ≤ x ∧ x < 18446744073709551616) (w : World) : (binOp .and t (.int .u64 x) (.int .u64 4294967295)).run P w = .ok (.int .u64 (x % 4294967296)) w := by
  obtain ⟨n, rfl⟩ : ∃ n : Nat, x = (n : Int) := ⟨x.toNat, by omega⟩
  have e := bits_and_u64_nat n 4294967295 (by omega) (by omega)
  have e2 : n &&& 4294967295 = n % 4294967296 := Nat.and_two_pow_sub_one_eq_mod n 32
  rw [e2] at e
  show Result.ok (Value.int .u64 (bits .and .u64 (n : Int) 4294967295)) w = _
  rw [show (4294967295 : Int) = ((4294967295 : Nat) : Int) from rfl, e]
  rfl
theorem u_shr {t : TypeId} {x : Int} {k : Nat} (hk : k ≤ 64) (w : World) : (binOp .shr t (.int .u64 x) (.int .u64 (k : Int))).run P w = .ok (.int .u64 (x / 2 ^ k)) w := by
  have : binOp .shr t (.int .u64 x) (.int .u64 (k : Int)) = Op.shift .shr .u64 x .u64 (k : Int) := rfl
  rw [this, shift_shr .u64 .u64 x (k : Int) (by omega) (by show (k : Int) ≤ 64; omega)]
  rfl
theorem u_shr32 {t : TypeId} {x : Int} (w : World) : (binOp .shr t (.int .u64 x) (.int .u64 32)).run P w = .ok (.int .u64 (x / 4294967296)) w := u_shr (k := 32) (by omega) w
theorem u_shr1 {t : TypeId} {x : Int} (w : World) : (binOp .shr t (.int .u64 x) (.int .u64 1)).run P w = .ok (.int .u64 (x / 2)) w := u_shr (k := 1) (by omega) w
theorem cv_iu {t t2 : TypeId} {x : Int} (hs : (P.underlying t).isSome = true) (hd : P.underlying t2 = some (.int .u64)) (hk : P.intKind t2 = .u64) (h : 0 ≤ x ∧ x < 18446744073709551616) (w : World) : (convert t t2 (.int .i64 x)).run P w = .ok (.int .u64 x) w := by
  rw [run_convert_int w t t2 .i64 x hs (by rw [hk]; exact hd), hk, IntKind.wrap_u64, Int.emod_eq_of_lt h.1 h.2]
theorem cv_ui {t t2 : TypeId} {x : Int} (hs : (P.underlying t).isSome = true) (hd : P.underlying t2 = some (.int .i64)) (hk : P.intKind t2 = .i64) (h : -9223372036854775808 ≤ x ∧ x ≤ 9223372036854775807) (w : World) : (convert t t2 (.int .u64 x)).run P w = .ok (.int .i64 x) w := by
  rw [run_convert_int w t t2 .u64 x hs (by rw [hk]; exact hd), hk, IntWalk.i64_in _ h]
end
theorem mul_b {a b : Int} (ha : 0 ≤ a ∧ a ≤ 4294967295) (hb : 0 ≤ b ∧ b ≤ 4294967295) : 0 ≤ a * b ∧ a * b ≤ 18446744065119617025 :=
  ⟨Int.mul_nonneg ha.1 hb.1, Int.mul_le_mul ha.2 hb.2 hb.1 (by omega)⟩
theorem mul64_int {x y : Int} (hx : 0 ≤ x ∧ x < 18446744073709551616) (hy : 0 ≤ y ∧ y < 18446744073709551616) :
    (0 ≤ (x % 4294967296) * (y % 4294967296) ∧ (x % 4294967296) * (y % 4294967296) < 18446744073709551616) ∧
    (0 ≤ (x / 4294967296) * (y % 4294967296) ∧ (x / 4294967296) * (y % 4294967296) + (x % 4294967296) * (y % 4294967296) / 4294967296 < 18446744073709551616) ∧
    (0 ≤ (x % 4294967296) * (y / 4294967296) ∧ ((x / 4294967296) * (y % 4294967296) + (x % 4294967296) * (y % 4294967296) / 4294967296) % 4294967296 + (x % 4294967296) * (y / 4294967296) < 18446744073709551616) ∧
    (0 ≤ (x / 4294967296) * (y / 4294967296) ∧ (x / 4294967296) * (y / 4294967296) ≤ x * y / 18446744073709551616 ∧ x * y / 18446744073709551616 < 18446744073709551616) ∧
    (x / 4294967296) * (y / 4294967296) + ((x / 4294967296) * (y % 4294967296) + (x % 4294967296) * (y % 4294967296) / 4294967296) / 4294967296 +
      (((x / 4294967296) * (y % 4294967296) + (x % 4294967296) * (y % 4294967296) / 4294967296) % 4294967296 + (x % 4294967296) * (y / 4294967296)) / 4294967296 = x * y / 18446744073709551616 := by
  have ex : x = x / 4294967296 * 4294967296 + x % 4294967296 := by omega
  have ey : y = y / 4294967296 * 4294967296 + y % 4294967296 := by omega
  have x1 : 0 ≤ x / 4294967296 ∧ x / 4294967296 ≤ 4294967295 := by omega
  have x0 : 0 ≤ x % 4294967296 ∧ x % 4294967296 ≤ 4294967295 := by omega
  have y1 : 0 ≤ y / 4294967296 ∧ y / 4294967296 ≤ 4294967295 := by omega
  have y0 : 0 ≤ y % 4294967296 ∧ y % 4294967296 ≤ 4294967295 := by omega
  have e : x * y = x / 4294967296 * (y / 4294967296) * 18446744073709551616 + (x / 4294967296 * (y % 4294967296) + x % 4294967296 * (y / 4294967296)) * 4294967296 + x % 4294967296 * (y % 4294967296) := by
    generalize x / 4294967296 = p at *; generalize x % 4294967296 = q at *; generalize y / 4294967296 = r at *; generalize y % 4294967296 = s at *
    subst ex ey; grind
  have ha := mul_b x1 y1; have hb := mul_b x1 y0; have hc := mul_b x0 y1; have hd := mul_b x0 y0
  rw [e]
  generalize x / 4294967296 * (y / 4294967296) = a at *
  generalize x / 4294967296 * (y % 4294967296) = b at *
  generalize x % 4294967296 * (y / 4294967296) = c at *
  generalize x % 4294967296 * (y % 4294967296) = d at *
  clear e ex ey x1 x0 y1 y0 hx hy
  refine ⟨by omega, by omega, by omega, by omega, by omega⟩
end Go.Proofs.Ytfeapeblnnmhlaa
