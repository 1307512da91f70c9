/- Plain facts on Go's quotients: '/' and '%' cut towards 0, against Lean's. -/
namespace Go.Cpl

theorem tmod_neg_eq {n by_ : Int} (hn : n < 0) : n.tdiv by_ = -((-n) / by_) ∧ n.tmod by_ = -((-n) % by_) := by
  have e : n = -(-n) := by omega
  constructor
  · conv => lhs; rw [e]
    rw [Int.neg_tdiv, Int.tdiv_eq_ediv_of_nonneg (by omega)]
  · conv => lhs; rw [e]
    rw [Int.neg_tmod, Int.tmod_eq_emod_of_nonneg (by omega)]

theorem ediv_of_neg {n by_ : Int} (hn : n < 0) (hb : 1 ≤ by_) : n / by_ = if n.tmod by_ < 0 then n.tdiv by_ - 1 else n.tdiv by_ := by
  obtain ⟨e1, e2⟩ := tmod_neg_eq hn
  rw [e1, e2]
  have h1 := Int.mul_ediv_add_emod (-n) by_
  have h2 := Int.emod_nonneg (-n) (b := by_) (by omega)
  have h3 := Int.emod_lt_of_pos (-n) (b := by_) (by omega)
  have k1 := Int.mul_ediv_add_emod n by_
  have k2 := Int.emod_nonneg n (b := by_) (by omega)
  have k3 := Int.emod_lt_of_pos n (b := by_) (by omega)
  generalize (-n) / by_ = q at *
  generalize (-n) % by_ = r at *
  generalize n / by_ = p at *
  generalize n % by_ = s at *
  have key : by_ * (p + q) = -(r + s) := by rw [Int.mul_add]; omega
  by_cases hr : r = 0
  · subst hr
    rw [if_neg (by omega)]
    have h0 : p + q = 0 := by
      have hlt : by_ * (p + q) > by_ * (-1) := by rw [key]; omega
      have hle : by_ * (p + q) ≤ by_ * 0 := by rw [key]; omega
      have a1 := Int.lt_of_mul_lt_mul_left hlt (by omega)
      have a2 := Int.le_of_mul_le_mul_left hle (by omega)
      omega
    omega
  · rw [if_pos (by omega)]
    have h0 : p + q = -1 := by
      have hlt : by_ * (p + q) > by_ * (-2) := by rw [key]; omega
      have hle : by_ * (p + q) < by_ * 0 := by rw [key]; omega
      have a1 := Int.lt_of_mul_lt_mul_left hlt (by omega)
      have a2 := Int.lt_of_mul_lt_mul_left hle (by omega)
      omega
    omega

theorem tdiv_bound {n by_ : Int} (h1 : -100000000000000000 ≤ n) (h2 : n ≤ 100000000000000000) : -100000000000000000 ≤ n.tdiv by_ ∧ n.tdiv by_ ≤ 100000000000000000 := by
  have h : (n.tdiv by_).natAbs ≤ n.natAbs := by rw [Int.natAbs_tdiv]; exact Nat.div_le_self _ _
  omega

theorem ediv_bound {n by_ : Int} (hb : 1 ≤ by_) (h1 : -10000000000000000 ≤ n) (h2 : n ≤ 10000000000000000) : -100000000000000000 ≤ n / by_ ∧ n / by_ ≤ 100000000000000000 := by
  by_cases h : 0 ≤ n
  · have h3 : 0 ≤ n / by_ := Int.ediv_nonneg h (by omega)
    have h4 : n / by_ ≤ n := Int.ediv_le_self _ h
    omega
  · have h3 := ediv_of_neg (by omega : n < 0) hb
    have h4 := tdiv_bound (n := n) (by_ := by_) (by omega) (by omega)
    have h5 : (n.tdiv by_).natAbs ≤ n.natAbs := by rw [Int.natAbs_tdiv]; exact Nat.div_le_self _ _
    rw [h3]
    split <;> omega

theorem emod_of_neg {n by_ : Int} (hn : n < 0) (hb : 1 ≤ by_) : n % by_ = if n.tmod by_ < 0 then n.tmod by_ + by_ else n.tmod by_ := by
  have h1 := ediv_of_neg hn hb
  have h2 := Int.mul_ediv_add_emod n by_
  have h3 := Int.mul_tdiv_add_tmod n by_
  by_cases ht : n.tmod by_ < 0
  · rw [if_pos ht] at h1 ⊢
    rw [h1, Int.mul_sub, Int.mul_one] at h2
    omega
  · rw [if_neg ht] at h1 ⊢
    rw [h1] at h2
    omega
theorem tmod_neg_bound {n by_ : Int} (hn : n < 0) (hb : 1 ≤ by_) : -by_ < n.tmod by_ ∧ n.tmod by_ ≤ 0 := by
  have h6 := (tmod_neg_eq (by_ := by_) hn).2
  have h7 := Int.emod_nonneg (-n) (b := by_) (by omega)
  have h8 := Int.emod_lt_of_pos (-n) (b := by_) (by omega)
  omega
end Go.Cpl
