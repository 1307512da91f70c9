import Derived.Test.YtfooefkgdcjlhaaMkT
/-! The lag of a trace and it shifted: plain. -/
namespace Go.Proofs.Ytfooefkgdcjlhaa
open Go.RowKit Go.Cpl

def lsq (f : Nat → Int) : Nat → Int
  | 0 => 0
  | n + 1 => lsq f n + f n * f n
def lg (f : Nat → Int) (j t : Nat) : Int := if j ≤ t then f (t - j) else 0
def lcr (f : Nat → Int) (j : Nat) : Nat → Int
  | 0 => 0
  | n + 1 => lcr f j n + f n * lg f j n
def ldd (f : Nat → Int) (j : Nat) : Nat → Int
  | 0 => 0
  | n + 1 => ldd f j n + (f n - lg f j n) * (f n - lg f j n)
theorem sq_sub (a g : Int) : (a - g) * (a - g) = a * a - 2 * (a * g) + g * g := by
  rw [Int.sub_mul, Int.mul_sub, Int.mul_sub, Int.mul_comm g a]; omega
theorem lcr_eq (f : Nat → Int) (j : Nat) : ∀ n, 2 * lcr f j n = lsq f n + lsq f (n - j) - ldd f j n
  | 0 => by simp [lcr, lsq, ldd]
  | n + 1 => by
    have ih := lcr_eq f j n
    simp only [lcr, lsq, ldd]
    rw [sq_sub, Int.mul_add, ih]
    by_cases h : j ≤ n
    · rw [show n + 1 - j = (n - j) + 1 by omega, show lg f j n = f (n - j) from if_pos h]
      simp only [lsq]
      omega
    · rw [show n + 1 - j = 0 by omega, show n - j = 0 by omega, show lg f j n = 0 from if_neg h]
      simp only [lsq, Int.mul_zero]
      omega
theorem sq_nn (a : Int) : 0 ≤ a * a := by
  rcases Int.le_total 0 a with h | h
  · exact Int.mul_nonneg h h
  · have := Int.mul_nonneg (show 0 ≤ -a by omega) (show 0 ≤ -a by omega); rw [Int.neg_mul_neg] at this; exact this
theorem sq_pos {a : Int} (h : a ≠ 0) : 0 < a * a := by
  have := sq_nn a
  have h2 : a * a ≠ 0 := fun e => by rcases Int.mul_eq_zero.1 e with q | q <;> exact h q
  omega
theorem lsq_mono (f : Nat → Int) {a : Nat} : ∀ {b : Nat}, a ≤ b → lsq f a ≤ lsq f b
  | 0, h => by have e : a = 0 := (by omega); subst e; exact Int.le_refl _
  | b + 1, h => by
    by_cases e : a = b + 1
    · subst e; exact Int.le_refl _
    · have := lsq_mono f (a := a) (b := b) (by omega)
      have := sq_nn (f b)
      simp only [lsq]; omega
theorem ldd_nn (f : Nat → Int) (j : Nat) : ∀ n, 0 ≤ ldd f j n
  | 0 => by simp [ldd]
  | n + 1 => by have := ldd_nn f j n; have := sq_nn (f n - lg f j n); simp only [ldd]; omega
theorem ldd_pos {f : Nat → Int} {j m : Nat} (hj : 0 < j) (hm : f m ≠ 0) (h0 : ∀ i, i < m → f i = 0) : ∀ {n : Nat}, m < n → 0 < ldd f j n
  | 0, h => by omega
  | n + 1, h => by
    have := ldd_nn f j n
    have := sq_nn (f n - lg f j n)
    simp only [ldd]
    by_cases e : m = n
    · subst e
      have : lg f j m = 0 := by unfold lg; split; exact h0 _ (by omega); rfl
      rw [this]
      have := sq_pos (a := f m - 0) (by omega)
      omega
    · have := ldd_pos (f := f) hj hm h0 (n := n) (by omega); omega
theorem l_least {f : Nat → Int} : ∀ {n : Nat}, (∃ i, i < n ∧ f i ≠ 0) → ∃ m, m < n ∧ f m ≠ 0 ∧ ∀ i, i < m → f i = 0
  | 0, ⟨i, h, _⟩ => by omega
  | n + 1, ⟨i, h, hi⟩ => by
    by_cases q : ∃ i, i < n ∧ f i ≠ 0
    · obtain ⟨m, h1, h2, h3⟩ := l_least q; exact ⟨m, by omega, h2, h3⟩
    · have e : i = n := by
        by_cases e : i = n
        · exact e
        · exact absurd ⟨i, by omega, hi⟩ q
      subst e
      exact ⟨i, by omega, hi, fun k hk => by by_cases z : f k = 0; exact z; exact absurd ⟨k, hk, z⟩ q⟩
theorem lcr_less {f : Nat → Int} {j n : Nat} (hj : 0 < j) (h : ∃ i, i < n ∧ f i ≠ 0) : lcr f j n < lcr f 0 n := by
  obtain ⟨m, h1, h2, h3⟩ := l_least h
  have e := lcr_eq f j n
  have d := ldd_pos hj h2 h3 h1
  have s := lsq_mono f (a := n - j) (b := n) (by omega)
  have e0 : ∀ n, lcr f 0 n = lsq f n := by
    intro n
    induction n with
    | zero => rfl
    | succ n ih => simp only [lcr, lsq]; rw [ih, show lg f 0 n = f n from if_pos (by omega)]
  rw [e0]
  omega
/-- Of a trace and it shifted by so many that nothing is lost. -/
theorem corrTo_shift {x : List Int} {b lag : Int} (hb : 0 ≤ b) (h1 : -b ≤ lag) (h2 : lag ≤ b) (hx : ∀ i : Nat, i < 64 → nthI x i ≠ 0 → (i : Int) + b < 64) : ∀ {n : Nat}, n ≤ 64 → corrTo x (shL x b) lag n = lcr (nthI x) (b - lag).toNat n
  | 0, _ => rfl
  | n + 1, h => by
    have ih := corrTo_shift hb h1 h2 hx (n := n) (by omega)
    simp only [corrTo, lcr]
    rw [ih]
    congr 1
    by_cases z : nthI x n = 0
    · rw [z]; split <;> simp
    · have := hx n (by omega) z
      by_cases q : 0 ≤ (n : Int) + lag
      · rw [if_pos (inB_true.2 (by omega)), shL_at (by omega)]
        congr 1
        unfold lg
        by_cases y : (b - lag).toNat ≤ n
        · rw [if_pos y, if_pos (by omega)]; congr 1; omega
        · rw [if_neg y, if_neg (by omega)]
      · rw [if_neg (fun w => q (inB_true.1 w).1)]
        unfold lg
        rw [if_neg (by omega)]; simp
def lagTo (x y : List Int) : Nat → Int × Int
  | 0 => (0, corr x y 0)
  | k + 1 => lagStep x y (lagStep x y (lagTo x y k) (-((k : Int) + 1))) ((k : Int) + 1)
theorem lagStep_y {x y : List Int} {best : Int × Int} {lag : Int} (h : corr x y lag > best.2) : lagStep x y best lag = (lag, corr x y lag) := if_pos h
theorem lagStep_n {x y : List Int} {best : Int × Int} {lag : Int} (h : ¬ corr x y lag > best.2) : lagStep x y best lag = best := if_neg h
theorem lagTo_s {x y : List Int} {k : Nat} {b1 b2 : Int × Int} (e1 : lagStep x y (lagTo x y k) (-((k : Int) + 1)) = b1) (e2 : lagStep x y b1 ((k : Int) + 1) = b2) : b2 = lagTo x y (k + 1) := by
  simp only [lagTo]; rw [e1, e2]
theorem lagFrom_to (x y : List Int) : ∀ (n k : Nat), lagFrom x y (k + 1) n (lagTo x y k) = lagTo x y (k + n)
  | 0, k => rfl
  | n + 1, k => by
    have := lagFrom_to x y n (k + 1)
    rw [show k + (n + 1) = k + 1 + n by omega, ← this]
    rfl
theorem lagOf_to (x y : List Int) (m : Nat) : lagOf x y m = (lagTo x y m).1 := by
  have := lagFrom_to x y m 0
  unfold lagOf
  rw [show (0 + m) = m by omega] at this
  rw [← this]
  rfl
section
variable {x : List Int} {b : Nat} (hx : ∀ i : Nat, i < 64 → nthI x i ≠ 0 → (i : Int) + (b : Int) < 64)
include hx
theorem lag_zero (h0 : ¬ ∃ i, i < 64 ∧ nthI x i ≠ 0) : lagOf x (shL x b) b = 0 := by
  have z : ∀ lag : Int, -(b : Int) ≤ lag → lag ≤ b → corr x (shL x b) lag = 0 := by
    intro lag h1 h2
    unfold corr
    rw [corrTo_shift (by omega) h1 h2 hx (by omega)]
    have : ∀ n, n ≤ 64 → lcr (nthI x) ((b : Int) - lag).toNat n = 0 := by
      intro n
      induction n with
      | zero => intro _; rfl
      | succ n ih =>
        intro hn
        simp only [lcr]
        rw [ih (by omega)]
        have : nthI x n = 0 := by by_cases z : nthI x n = 0; exact z; exact absurd ⟨n, by omega, z⟩ h0
        rw [this]; simp
    exact this 64 (by omega)
  have t : ∀ k, k ≤ b → lagTo x (shL x b) k = (0, 0) := by
    intro k
    induction k with
    | zero => intro _; simp only [lagTo]; rw [z 0 (by omega) (by omega)]
    | succ k ih =>
      intro hk
      exact (lagTo_s (b1 := (0, 0)) (b2 := (0, 0)) (by rw [ih (by omega)]; exact lagStep_n (by rw [z _ (by omega) (by omega)]; simp)) (lagStep_n (by rw [z _ (by omega) (by omega)]; simp))).symm
  rw [lagOf_to, t b (Nat.le_refl _)]
theorem lag_some (h0 : ∃ i, i < 64 ∧ nthI x i ≠ 0) : lagOf x (shL x b) b = b := by
  have c : ∀ lag : Int, -(b : Int) ≤ lag → lag < b → corr x (shL x b) lag < corr x (shL x b) b := by
    intro lag h1 h2
    unfold corr
    rw [corrTo_shift (by omega) h1 (by omega) hx (by omega), corrTo_shift (by omega) (by omega) (by omega) hx (by omega)]
    rw [show ((b : Int) - (b : Int)).toNat = 0 by omega]
    exact lcr_less (by omega) h0
  have st : ∀ (best : Int × Int) (lag : Int), best.2 < corr x (shL x b) b → -(b : Int) ≤ lag → lag < b → (lagStep x (shL x b) best lag).2 < corr x (shL x b) b := by
    intro best lag h1 h2 h3
    by_cases q : corr x (shL x b) lag > best.2
    · rw [lagStep_y q]; exact c lag h2 h3
    · rw [lagStep_n q]; exact h1
  have t : ∀ k, k < b → (lagTo x (shL x b) k).2 < corr x (shL x b) b := by
    intro k
    induction k with
    | zero => intro hk; exact c 0 (by omega) (by omega)
    | succ k ih =>
      intro hk
      simp only [lagTo]
      exact st _ _ (st _ _ (ih (by omega)) (by omega) (by omega)) (by omega) (by omega)
  rw [lagOf_to]
  by_cases e : b = 0
  · subst e; rfl
  · obtain ⟨k, rfl⟩ : ∃ k, b = k + 1 := ⟨b - 1, by omega⟩
    simp only [lagTo]
    have q := st _ (-((k : Int) + 1)) (t k (by omega)) (by omega) (by omega)
    rw [lagStep_y (best := lagStep _ _ _ _) (lag := (k : Int) + 1) (by simpa using q)]
    simp
end
/-- Is one of the first k not zero? -/
def nz (x : List Int) : Nat → Bool
  | 0 => false
  | k + 1 => nz x k || decide (nthI x k ≠ 0)
theorem nz_iff (x : List Int) : ∀ k, nz x k = true ↔ ∃ i, i < k ∧ nthI x i ≠ 0
  | 0 => by simp [nz]
  | k + 1 => by
    have ih := nz_iff x k
    simp only [nz, Bool.or_eq_true, decide_eq_true_eq, ih]
    constructor
    · rintro (⟨i, h1, h2⟩ | h)
      · exact ⟨i, by omega, h2⟩
      · exact ⟨k, by omega, h⟩
    · rintro ⟨i, h1, h2⟩
      by_cases e : i = k
      · subst e; exact .inr h2
      · exact .inl ⟨i, by omega, h2⟩
end Go.Proofs.Ytfooefkgdcjlhaa
