/-! Chapter 1, plain: roots, slopes, crossings, times. -/
namespace Go.Ray1

def sgn (n : Int) : Int := if n > 0 then 1 else if n < 0 then -1 else 0
theorem sgn_pos {n : Int} (h : 0 < n) : sgn n = 1 := if_pos h
theorem sgn_neg {n : Int} (h : n < 0) : sgn n = -1 := by unfold sgn; rw [if_neg (by omega), if_pos h]
theorem sgn_zero : sgn 0 = 0 := rfl
theorem sgn_le {n : Int} : sgn n ≤ 0 ↔ n ≤ 0 := by unfold sgn; split; omega; split <;> omega
theorem sgn_gt {n : Int} : sgn n > 0 ↔ n > 0 := by unfold sgn; split; omega; split <;> omega
theorem sgn_n (n : Int) : sgn (-n) = -sgn n := by
  unfold sgn
  by_cases h : n > 0
  · rw [if_neg (by omega), if_pos (by omega), if_pos h]
  · by_cases h2 : n < 0
    · rw [if_pos (by omega), if_neg h, if_pos h2]; rfl
    · rw [if_neg (by omega), if_neg (by omega), if_neg h, if_neg h2]; rfl
theorem sgn_b (n : Int) : -1 ≤ sgn n ∧ sgn n ≤ 1 := by unfold sgn; split; omega; split <;> omega

theorem sq_nn (a : Int) : 0 ≤ a * a := by
  rcases Int.le_total 0 a with h | h
  · exact Int.mul_nonneg h h
  · have := Int.mul_nonneg (show 0 ≤ -a by omega) (show 0 ≤ -a by omega); rw [Int.neg_mul_neg] at this; exact this
theorem sq_pos {a : Int} (h : a ≠ 0) : 0 < a * a := by
  have := sq_nn a
  have h2 : a * a ≠ 0 := fun e => by rcases Int.mul_eq_zero.1 e with q | q <;> exact h q
  omega
theorem sq_le {a b : Int} (h0 : 0 ≤ a) (h : a ≤ b) : a * a ≤ b * b := Int.mul_le_mul h h h0 (by omega)
theorem sq_lt {a b : Int} (h0 : 0 ≤ a) (h : a < b) : a * a < b * b := by
  have h1 := Int.mul_le_mul_of_nonneg_left (Int.le_of_lt h) h0
  have h2 := Int.mul_lt_mul_of_pos_right h (show 0 < b by omega)
  omega
theorem sq_b {a b : Int} (h : -b ≤ a ∧ a ≤ b) : a * a ≤ b * b := by
  rcases Int.le_total 0 a with q | q
  · exact sq_le q h.2
  · have := sq_le (a := -a) (b := b) (by omega) (by omega); rw [Int.neg_mul_neg] at this; exact this

/-- The root of a number, rounded down. -/
def IsRoot (n r : Int) : Prop := 0 ≤ r ∧ r * r ≤ n ∧ n < (r + 1) * (r + 1)
theorem IsRoot.uniq {n r s : Int} (h : IsRoot n r) (k : IsRoot n s) : r = s := by
  obtain ⟨h0, h1, h2⟩ := h
  obtain ⟨k0, k1, k2⟩ := k
  by_cases q : r < s
  · have := sq_le (a := r + 1) (b := s) (by omega) (by omega); omega
  · by_cases q2 : s < r
    · have := sq_le (a := s + 1) (b := r) (by omega) (by omega); omega
    · omega
def rtTo (n : Int) : Nat → Int
  | 0 => 0
  | k + 1 => if ((k : Int) + 1) * ((k : Int) + 1) ≤ n then (k : Int) + 1 else rtTo n k
theorem rtTo_is {n : Int} (h0 : 0 ≤ n) : ∀ k : Nat, 0 ≤ rtTo n k ∧ rtTo n k ≤ (k : Int) ∧ rtTo n k * rtTo n k ≤ n ∧ ∀ j : Nat, rtTo n k < (j : Int) → j ≤ k → n < (j : Int) * (j : Int)
  | 0 => ⟨by simp [rtTo], by simp [rtTo], by simpa [rtTo] using h0, fun j h1 h2 => by simp [rtTo] at h1; omega⟩
  | k + 1 => by
    obtain ⟨a, b, c, d⟩ := rtTo_is h0 k
    simp only [rtTo]
    split
    · next h => exact ⟨by omega, by omega, h, fun j h1 h2 => by omega⟩
    · next h =>
      refine ⟨a, by omega, c, fun j h1 h2 => ?_⟩
      by_cases e : j = k + 1
      · subst e; have : ((k + 1 : Nat) : Int) = (k : Int) + 1 := by omega
        rw [this]; omega
      · exact d j h1 (by omega)
def rt (n : Int) : Int := rtTo n (n.toNat + 1)
theorem rt_is {n : Int} (h0 : 0 ≤ n) : IsRoot n (rt n) := by
  obtain ⟨a, b, c, d⟩ := rtTo_is h0 (n.toNat + 1)
  refine ⟨a, c, ?_⟩
  have e : (((rt n + 1).toNat : Nat) : Int) = rt n + 1 := by unfold rt; omega
  have hle : (rt n + 1).toNat ≤ n.toNat + 1 := by
    have : rt n * rt n ≤ n := c
    have a' : 0 ≤ rt n := a
    by_cases z : rt n ≤ n
    · omega
    · have := sq_le (a := n + 1) (b := rt n) (by omega) (by omega)
      have h3 : (n + 1) * (n + 1) = n * n + 2 * n + 1 := by rw [Int.add_mul, Int.mul_add]; omega
      have := sq_nn n
      omega
  have := d (rt n + 1).toNat (by rw [e]; show rt n < rt n + 1; omega) hle
  rw [e] at this
  exact this
theorem rt_eq {n r : Int} (h : IsRoot n r) : rt n = r := (rt_is (by obtain ⟨a, b, _⟩ := h; have := sq_nn r; omega)).uniq h
theorem rt_nn {n : Int} (h : 0 ≤ n) : 0 ≤ rt n := (rt_is h).1
theorem rt_le {n : Int} (h : 0 ≤ n) : rt n * rt n ≤ n := (rt_is h).2.1
theorem rt_bd {n b : Int} (h : 0 ≤ n) (hb : 0 ≤ b) (h2 : n ≤ b * b) : rt n ≤ b := by
  have := rt_is h
  by_cases q : rt n ≤ b
  · exact q
  · have := sq_lt (a := b) (b := rt n) hb (by omega)
    have := rt_le h
    omega
/-- Rounded up. -/
def rtU (n : Int) : Int := if rt n * rt n < n then rt n + 1 else rt n
theorem rtU_bd {n : Int} : rt n ≤ rtU n ∧ rtU n ≤ rt n + 1 := by unfold rtU; split <;> omega
theorem rtU_ge {n : Int} (h : 0 ≤ n) : n ≤ rtU n * rtU n := by
  unfold rtU
  split
  · have := (rt_is h).2.2; omega
  · omega

/-- Rounded up. -/
def upD (n by_ : Int) : Int := -((-n) / by_)

/-- The sign that fractions compare by. -/
def cmpI (n d m k : Int) : Int := sgn (n * k - m * d)
theorem cmp_lt {n d m k : Int} (hd : 0 < d) (hk : 0 < k) (h : n / d < m / k) : cmpI n d m k = -1 := by
  unfold cmpI
  apply sgn_neg
  have h1 : n < (n / d + 1) * d := by have := Int.lt_ediv_add_one_mul_self n hd; exact this
  have h2 : m / k * k ≤ m := Int.ediv_mul_le m (by omega)
  have h3 : (n / d + 1) * d ≤ (m / k) * d := Int.mul_le_mul_of_nonneg_right (by omega) (by omega)
  have h4 : n * k < m / k * d * k := Int.mul_lt_mul_of_pos_right (by omega) hk
  have h5 : m / k * k * d ≤ m * d := Int.mul_le_mul_of_nonneg_right h2 (by omega)
  have h6 : m / k * d * k = m / k * k * d := by ac_rfl
  omega
theorem cmp_swap (n d m k : Int) : cmpI m k n d = -cmpI n d m k := by
  unfold cmpI; rw [← sgn_n]; congr 1; omega
theorem cmp_gt {n d m k : Int} (hd : 0 < d) (hk : 0 < k) (h : n / d > m / k) : cmpI n d m k = 1 := by
  have := cmp_lt hk hd h
  rw [cmp_swap] at this
  omega
theorem cmp_rest {n d m k : Int} (h : n / d = m / k) : cmpI n d m k = cmpI (n - n / d * d) d (m - m / k * k) k := by
  unfold cmpI
  rw [Int.sub_mul, Int.sub_mul, ← h]
  have e : n / d * d * k = n / d * k * d := by ac_rfl
  rw [e]
  congr 1
  omega
theorem cmp_flip {n d m k : Int} : cmpI k m d n = cmpI n d m k := by
  unfold cmpI; congr 1; rw [Int.mul_comm k n, Int.mul_comm d m]
theorem cmp_00 {d k : Int} : cmpI 0 d 0 k = 0 := by unfold cmpI; simp [sgn]
theorem cmp_0m {d m k : Int} (hd : 0 < d) (hm : 0 < m) : cmpI 0 d m k = -1 := by
  unfold cmpI; apply sgn_neg; have := Int.mul_pos hm hd; omega
theorem cmp_n0 {n d k : Int} (hn : 0 < n) (hk : 0 < k) : cmpI n d 0 k = 1 := by
  unfold cmpI; apply sgn_pos; have := Int.mul_pos hn hk; omega

/-- A crossing. -/
structure Cr where
  x1 : Int
  h1 : Int
  v1 : Int
  x2 : Int
  h2 : Int
  v2 : Int
structure Cr.Ok (c : Cr) : Prop where
  x1 : -100000 ≤ c.x1 ∧ c.x1 ≤ 100000
  x2 : -100000 ≤ c.x2 ∧ c.x2 ≤ 100000
  h1 : 1 ≤ c.h1 ∧ c.h1 ≤ 100000
  h2 : 1 ≤ c.h2 ∧ c.h2 ≤ 100000
  v1 : 500 ≤ c.v1 ∧ c.v1 ≤ 10000
  v2 : 500 ≤ c.v2 ∧ c.v2 ≤ 10000
def Cr.lo (c : Cr) : Int := min c.x1 c.x2
def Cr.hi (c : Cr) : Int := max c.x1 c.x2
/-- Both shares, squared: of so far along from the one and to the other place. -/
def shA (c : Cr) (a b : Int) : Int := a * a * (c.v2 * c.v2) * (b * b + c.h2 * c.h2)
def shB (c : Cr) (a b : Int) : Int := b * b * (c.v1 * c.v1) * (a * a + c.h1 * c.h1)
def slp (c : Cr) (at_ : Int) : Int :=
  if c.x2 < c.x1 then -sgn (shA c (at_ - c.x1) (c.x2 - at_) - shB c (at_ - c.x1) (c.x2 - at_)) else sgn (shA c (at_ - c.x1) (c.x2 - at_) - shB c (at_ - c.x1) (c.x2 - at_))
theorem mono_abs {A A' B B' H K V U : Int} (a0 : 0 ≤ A) (b0 : 0 ≤ B') (hA : A ≤ A') (hB : B' ≤ B) (hH : 0 < H) (hK : 0 < K) (hV : 0 < V) (hU : 0 < U) (h : A * U * (B + K) > B * V * (A + H)) : A' * U * (B' + K) > B' * V * (A' + H) := by
  have h1 : A' * U * (B + K) > B * V * (A' + H) := by
    have e1 : A * U * (B + K) = A * (U * (B + K)) := by ac_rfl
    have e2 : A' * U * (B + K) = A' * (U * (B + K)) := by ac_rfl
    rw [e1] at h
    rw [e2]
    have hQ : 0 ≤ B * V := Int.mul_nonneg (by omega) (by omega)
    generalize U * (B + K) = P at *
    generalize B * V = Q at *
    rw [Int.mul_add] at h ⊢
    have q1 : 0 ≤ Q * H := Int.mul_nonneg hQ (by omega)
    have e3 : A * (P - Q) = A * P - Q * A := by rw [Int.mul_sub, Int.mul_comm A Q]
    have e4 : A' * (P - Q) = A' * P - Q * A' := by rw [Int.mul_sub, Int.mul_comm A' Q]
    have q2 : 0 < P - Q := by
      by_cases z : 0 < P - Q
      · exact z
      · have := Int.mul_le_mul_of_nonneg_left (show P - Q ≤ 0 by omega) a0; omega
    have q3 := Int.mul_le_mul_of_nonneg_right hA (Int.le_of_lt q2)
    omega
  have e1 : B * V * (A' + H) = B * (V * (A' + H)) := by ac_rfl
  have e2 : B' * V * (A' + H) = B' * (V * (A' + H)) := by ac_rfl
  rw [e1] at h1
  rw [e2]
  have hS : 0 < V * (A' + H) := Int.mul_pos hV (by omega)
  have hR : 0 ≤ A' * U := Int.mul_nonneg (by omega) (by omega)
  generalize V * (A' + H) = S at *
  generalize A' * U = R at *
  rw [Int.mul_add] at h1 ⊢
  have e3 : B * (R - S) = R * B - B * S := by rw [Int.mul_sub, Int.mul_comm B R]
  have e4 : B' * (R - S) = R * B' - B' * S := by rw [Int.mul_sub, Int.mul_comm B' R]
  by_cases z : 0 ≤ R - S
  · have q1 := Int.mul_pos (show 0 < R by omega) hK
    have q2 := Int.mul_nonneg b0 z
    omega
  · have q1 := Int.mul_le_mul_of_nonneg_right hB (show 0 ≤ -(R - S) by omega)
    rw [Int.mul_neg, Int.mul_neg] at q1
    omega
theorem shA_n (c : Cr) (a b : Int) : shA c (-a) (-b) = shA c a b := by unfold shA; rw [Int.neg_mul_neg, Int.neg_mul_neg]
theorem shB_n (c : Cr) (a b : Int) : shB c (-a) (-b) = shB c a b := by unfold shB; rw [Int.neg_mul_neg, Int.neg_mul_neg]
section
variable {c : Cr} (ok : c.Ok)
include ok
theorem Cr.Ok.pos : 0 < c.h1 * c.h1 ∧ 0 < c.h2 * c.h2 ∧ 0 < c.v1 * c.v1 ∧ 0 < c.v2 * c.v2 := by
  have p1 := ok.h1; have p2 := ok.h2; have p3 := ok.v1; have p4 := ok.v2
  exact ⟨sq_pos (by omega), sq_pos (by omega), sq_pos (by omega), sq_pos (by omega)⟩
/-- If the one share is the greater one, it stays so farther on. -/
theorem sh_mono {a b a' b' : Int} (h0 : 0 ≤ a) (h1 : a ≤ a') (h2 : 0 ≤ b') (h3 : b' ≤ b) (h : shA c a b > shB c a b) : shA c a' b' > shB c a' b' := by
  obtain ⟨H1, H2, V1, V2⟩ := ok.pos
  exact mono_abs (sq_nn a) (sq_nn b') (sq_le h0 h1) (sq_le h2 h3) H1 H2 V1 V2 h
/-- and the other way. -/
theorem sh_mono2 {a b a' b' : Int} (h0 : 0 ≤ b) (h1 : b ≤ b') (h2 : 0 ≤ a') (h3 : a' ≤ a) (h : shB c a b > shA c a b) : shB c a' b' > shA c a' b' := by
  obtain ⟨H1, H2, V1, V2⟩ := ok.pos
  exact mono_abs (sq_nn b) (sq_nn a') (sq_le h0 h1) (sq_le h2 h3) H2 H1 V2 V1 h
theorem sh_mono2' {a b a' b' : Int} (h0 : 0 ≤ b') (h1 : b' ≤ b) (h2 : 0 ≤ a) (h3 : a ≤ a') (h : ¬ shB c a b > shA c a b) : ¬ shB c a' b' > shA c a' b' := fun q => h (sh_mono2 ok h0 h1 h2 h3 q)
/-- The slope does not fall. -/
theorem slp_mono {p q : Int} (h0 : c.lo ≤ p) (h1 : p ≤ q) (h2 : q ≤ c.hi) (h : slp c p > 0) : slp c q > 0 := by
  unfold Cr.lo at h0; unfold Cr.hi at h2
  unfold slp at *
  by_cases e : c.x2 < c.x1
  · rw [if_pos e] at h ⊢
    have a1 : sgn (shA c (p - c.x1) (c.x2 - p) - shB c (p - c.x1) (c.x2 - p)) < 0 := by omega
    have a2 : shB c (c.x1 - p) (p - c.x2) > shA c (c.x1 - p) (p - c.x2) := by
      have := shA_n c (c.x1 - p) (p - c.x2); have := shB_n c (c.x1 - p) (p - c.x2)
      rw [show -(c.x1 - p) = p - c.x1 by omega, show -(p - c.x2) = c.x2 - p by omega] at *
      have := (not_congr (sgn_gt (n := -(shA c (p - c.x1) (c.x2 - p) - shB c (p - c.x1) (c.x2 - p)))))
      by_cases z : shB c (c.x1 - p) (p - c.x2) > shA c (c.x1 - p) (p - c.x2)
      · exact z
      · have := sgn_n (shA c (p - c.x1) (c.x2 - p) - shB c (p - c.x1) (c.x2 - p))
        have := (sgn_le (n := -(shA c (p - c.x1) (c.x2 - p) - shB c (p - c.x1) (c.x2 - p)))).2 (by omega)
        omega
    have a3 := sh_mono2 ok (a := c.x1 - p) (b := p - c.x2) (a' := c.x1 - q) (b' := q - c.x2) (by omega) (by omega) (by omega) (by omega) a2
    have := shA_n c (c.x1 - q) (q - c.x2); have := shB_n c (c.x1 - q) (q - c.x2)
    rw [show -(c.x1 - q) = q - c.x1 by omega, show -(q - c.x2) = c.x2 - q by omega] at *
    have := sgn_neg (n := shA c (q - c.x1) (c.x2 - q) - shB c (q - c.x1) (c.x2 - q)) (by omega)
    omega
  · rw [if_neg e] at h ⊢
    rw [sgn_gt] at h ⊢
    have := sh_mono ok (a := p - c.x1) (b := c.x2 - p) (a' := q - c.x1) (b' := c.x2 - q) (by omega) (by omega) (by omega) (by omega) (by omega)
    omega
/-- At the lesser place it is not above 0. -/
theorem slp_lo : slp c c.lo ≤ 0 := by
  unfold slp Cr.lo
  have nn : ∀ a b, 0 ≤ shA c a b ∧ 0 ≤ shB c a b := by
    intro a b
    obtain ⟨H1, H2, V1, V2⟩ := ok.pos
    unfold shA shB
    have := sq_nn a; have := sq_nn b
    exact ⟨Int.mul_nonneg (Int.mul_nonneg (by omega) (by omega)) (by omega), Int.mul_nonneg (Int.mul_nonneg (by omega) (by omega)) (by omega)⟩
  by_cases e : c.x2 < c.x1
  · rw [if_pos e, show min c.x1 c.x2 = c.x2 by omega, show c.x2 - c.x2 = 0 by omega]
    have z : shB c (c.x2 - c.x1) 0 = 0 := by unfold shB; simp
    rw [z]
    have := (nn (c.x2 - c.x1) 0).1
    have := sgn_b (shA c (c.x2 - c.x1) 0 - 0)
    have h := (sgn_le (n := -(shA c (c.x2 - c.x1) 0 - 0))).2 (by omega)
    rw [sgn_n] at h
    exact h
  · rw [if_neg e, show min c.x1 c.x2 = c.x1 by omega, show c.x1 - c.x1 = 0 by omega]
    have z : shA c 0 (c.x2 - c.x1) = 0 := by unfold shA; simp
    rw [z, sgn_le]
    have := (nn 0 (c.x2 - c.x1)).2
    omega
end
/-- The crossing of least time: the greatest place with a slope not above 0. -/
def crTo (c : Cr) : Nat → Int
  | 0 => c.lo
  | d + 1 => if slp c (c.lo + ((d : Int) + 1)) ≤ 0 then c.lo + ((d : Int) + 1) else crTo c d
def crs (c : Cr) : Int := crTo c (c.hi - c.lo).toNat
structure IsCrs (c : Cr) (k : Int) : Prop where
  lo : c.lo ≤ k
  hi : k ≤ c.hi
  le : slp c k ≤ 0
  gt : k + 1 ≤ c.hi → slp c (k + 1) > 0
theorem crTo_is {c : Cr} (ok : c.Ok) : ∀ d : Nat, c.lo ≤ crTo c d ∧ crTo c d ≤ c.lo + (d : Int) ∧ slp c (crTo c d) ≤ 0 ∧ (crTo c d + 1 ≤ c.lo + (d : Int) → slp c (crTo c d + 1) > 0)
  | 0 => ⟨Int.le_refl _, by simp [crTo], slp_lo ok, fun h => by simp [crTo] at h; omega⟩
  | d + 1 => by
    obtain ⟨a, b, e, f⟩ := crTo_is ok d
    simp only [crTo]
    split
    · next h => exact ⟨by omega, by omega, h, fun h2 => by omega⟩
    · next h =>
      refine ⟨a, by omega, e, fun h2 => ?_⟩
      by_cases z : crTo c d + 1 ≤ c.lo + (d : Int)
      · exact f z
      · rw [show crTo c d + 1 = c.lo + ((d : Int) + 1) by omega]; omega
theorem crs_is {c : Cr} (ok : c.Ok) : IsCrs c (crs c) := by
  obtain ⟨a, b, e, f⟩ := crTo_is ok (c.hi - c.lo).toNat
  have : c.lo ≤ c.hi := by unfold Cr.lo Cr.hi; omega
  exact ⟨a, by unfold crs; omega, e, fun h => f (by unfold crs at h; omega)⟩
theorem IsCrs.uniq {c : Cr} (ok : c.Ok) {k j : Int} (hk : IsCrs c k) (hj : IsCrs c j) : k = j := by
  have a := hk.lo; have b := hk.hi; have a2 := hj.lo; have b2 := hj.hi
  have l1 := hk.le; have l2 := hj.le
  by_cases q : k < j
  · have := slp_mono ok (p := k + 1) (q := j) (by omega) (by omega) b2 (hk.gt (by omega)); omega
  · by_cases q2 : j < k
    · have := slp_mono ok (p := j + 1) (q := k) (by omega) (by omega) b (hj.gt (by omega)); omega
    · omega
theorem crs_eq {c : Cr} (ok : c.Ok) {k : Int} (h : IsCrs c k) : crs c = k := (crs_is ok).uniq ok h

/-- Lengths and times. -/
def lenN (x z : Int) : Int := 1000000 * (x * x + z * z)
def lenL (x z : Int) : Int := rt (lenN x z)
def lenU (x z : Int) : Int := rtU (lenN x z)
def tLo (l v : Int) : Int := l * 10000 / v
def tHi (u v : Int) : Int := upD (u * 10000) v
theorem lenN_nn (x z : Int) : 0 ≤ lenN x z := by unfold lenN; have := sq_nn x; have := sq_nn z; omega
theorem lenL_nn (x z : Int) : 0 ≤ lenL x z := rt_nn (lenN_nn x z)
theorem lenU_nn (x z : Int) : 0 ≤ lenU x z := by have := lenL_nn x z; have := rtU_bd (n := lenN x z); unfold lenU lenL at *; omega
theorem lenL_sq (x z : Int) : lenL x z * lenL x z ≤ lenN x z := rt_le (lenN_nn x z)
theorem lenU_sq (x z : Int) : lenN x z ≤ lenU x z * lenU x z := rtU_ge (lenN_nn x z)
theorem lenL_n (x z : Int) : lenL (-x) z = lenL x z := by unfold lenL lenN; rw [Int.neg_mul_neg]
theorem lenU_n (x z : Int) : lenU (-x) z = lenU x z := by unfold lenU lenN; rw [Int.neg_mul_neg]
theorem tLo_le {l v : Int} (hv : 0 < v) : v * tLo l v ≤ l * 10000 := by unfold tLo; exact Int.mul_ediv_self_le (by omega)
theorem upD_ge {n v : Int} (hv : 0 < v) : n ≤ v * upD n v := by
  unfold upD
  have := Int.mul_ediv_self_le (x := -n) (k := v) (by omega)
  rw [Int.mul_neg]
  omega
theorem tHi_ge {u v : Int} (hv : 0 < v) : u * 10000 ≤ v * tHi u v := upD_ge hv
theorem tLo_nn {l v : Int} (h : 0 ≤ l) (hv : 0 < v) : 0 ≤ tLo l v := by unfold tLo; exact Int.ediv_nonneg (by omega) (by omega)
theorem le_of_sq {x y : Int} (hx : 0 ≤ x) (h : y * y ≤ x * x) : y ≤ x := by
  by_cases q : y ≤ x
  · exact q
  · have := sq_lt hx (show x < y by omega); omega
/-- Times add up as their lengths do. -/
theorem t_le {v w l1 l2 u1 u2 : Int} (hv : 0 < v) (hw : 0 < w) (h : w * l1 + v * l2 ≤ w * u1 + v * u2) : tLo l1 v + tLo l2 w ≤ tHi u1 v + tHi u2 w := by
  have a1 := tLo_le (l := l1) hv; have a2 := tLo_le (l := l2) hw
  have b1 := tHi_ge (u := u1) hv; have b2 := tHi_ge (u := u2) hw
  have c1 := Int.mul_le_mul_of_nonneg_left a1 (Int.le_of_lt hw)
  have c2 := Int.mul_le_mul_of_nonneg_left a2 (Int.le_of_lt hv)
  have d1 := Int.mul_le_mul_of_nonneg_left b1 (Int.le_of_lt hw)
  have d2 := Int.mul_le_mul_of_nonneg_left b2 (Int.le_of_lt hv)
  have e : (v * w) * (tLo l1 v + tLo l2 w) ≤ (v * w) * (tHi u1 v + tHi u2 w) := by grind
  exact Int.le_of_mul_le_mul_left e (Int.mul_pos hv hw)
/-- THE TANGENT: where the slope is not below 0, places farther on take no less time. -/
theorem tangent {a b d H K V W L1 L2 U1 U2 : Int} (ha : 0 ≤ a) (hd : 0 ≤ d) (hH : 1 ≤ H) (hV : 1 ≤ V) (hW : 1 ≤ W)
    (l1 : L1 * L1 ≤ 1000000 * (a * a + H * H)) (l2 : L2 * L2 ≤ 1000000 * (b * b + K * K))
    (u1 : 1000000 * ((a + d) * (a + d) + H * H) ≤ U1 * U1) (u2 : 1000000 * ((b - d) * (b - d) + K * K) ≤ U2 * U2) (hU1 : 0 ≤ U1) (hU2 : 0 ≤ U2)
    (hs : b * b * (V * V) * (a * a + H * H) ≤ a * a * (W * W) * (b * b + K * K)) : W * L1 + V * L2 ≤ W * U1 + V * U2 := by
  have hA1 : 1 ≤ a * a + H * H := by have := sq_nn a; have := sq_le (a := 1) (b := H) (by omega) hH; omega
  have hB0 : b * b ≤ b * b + K * K := by have := sq_nn K; omega
  have na := sq_nn a; have nb := sq_nn b
  generalize hA : a * a + H * H = A at *
  generalize hB : b * b + K * K = B at *
  have eA : (a + d) * (a + d) + H * H = A + 2 * (a * d) + d * d := by grind
  have eB : (b - d) * (b - d) + K * K = B - 2 * (b * d) + d * d := by grind
  rw [eA] at u1
  rw [eB] at u2
  generalize hN : V + W + d * V + 1 = N
  have hdV := Int.mul_nonneg hd (show 0 ≤ V by omega)
  have N1 : 1 ≤ N := by omega
  have nn : 0 ≤ N * N * (1000000 * A) := Int.mul_nonneg (sq_nn N) (by omega)
  have nm : 0 ≤ N * N * (1000000 * B) := Int.mul_nonneg (sq_nn N) (by omega)
  obtain ⟨p0, p1, p2⟩ := rt_is nn
  obtain ⟨q0, q1, q2⟩ := rt_is nm
  generalize rt (N * N * (1000000 * A)) = P at *
  generalize rt (N * N * (1000000 * B)) = Q at *
  -- lesser ends
  have i1 : N * L1 ≤ P := by
    have h1 : (N * L1) * (N * L1) ≤ N * N * (1000000 * A) := by
      have := Int.mul_le_mul_of_nonneg_left l1 (sq_nn N); grind
    by_cases z : N * L1 ≤ P
    · exact z
    · have := sq_le (a := P + 1) (b := N * L1) (by omega) (by omega); omega
  have i2 : N * L2 ≤ Q := by
    have h1 : (N * L2) * (N * L2) ≤ N * N * (1000000 * B) := by
      have := Int.mul_le_mul_of_nonneg_left l2 (sq_nn N); grind
    by_cases z : N * L2 ≤ Q
    · exact z
    · have := sq_le (a := Q + 1) (b := N * L2) (by omega) (by omega); omega
  -- Cauchy
  have k1 : N * 1000000 * (A + d * a) ≤ U1 * (P + 1) := by
    apply le_of_sq (Int.mul_nonneg hU1 (by omega))
    have s1 : A * (A + 2 * (a * d) + d * d) = (A + d * a) * (A + d * a) + d * d * (H * H) := by grind
    have s2 := Int.mul_nonneg (sq_nn d) (sq_nn H)
    have s3 := Int.mul_le_mul_of_nonneg_left (Int.le_of_lt p2) (sq_nn U1)
    have s4 := Int.mul_le_mul_of_nonneg_right u1 nn
    have s5 := Int.mul_le_mul_of_nonneg_left (show (A + d * a) * (A + d * a) ≤ A * (A + 2 * (a * d) + d * d) by omega) (sq_nn (N * 1000000))
    have s6 : N * 1000000 * (N * 1000000) * (A * (A + 2 * (a * d) + d * d)) = 1000000 * (A + 2 * (a * d) + d * d) * (N * N * (1000000 * A)) := by grind
    have s7 : N * 1000000 * (A + d * a) * (N * 1000000 * (A + d * a)) = N * 1000000 * (N * 1000000) * ((A + d * a) * (A + d * a)) := by grind
    have s8 : U1 * (P + 1) * (U1 * (P + 1)) = U1 * U1 * ((P + 1) * (P + 1)) := by grind
    omega
  have k2 : N * 1000000 * (B - d * b) ≤ U2 * (Q + 1) := by
    apply le_of_sq (Int.mul_nonneg hU2 (by omega))
    have s1 : B * (B - 2 * (b * d) + d * d) = (B - d * b) * (B - d * b) + d * d * (K * K) := by grind
    have s2 := Int.mul_nonneg (sq_nn d) (sq_nn K)
    have s3 := Int.mul_le_mul_of_nonneg_left (Int.le_of_lt q2) (sq_nn U2)
    have s4 := Int.mul_le_mul_of_nonneg_right u2 nm
    have s5 := Int.mul_le_mul_of_nonneg_left (show (B - d * b) * (B - d * b) ≤ B * (B - 2 * (b * d) + d * d) by omega) (sq_nn (N * 1000000))
    have s6 : N * 1000000 * (N * 1000000) * (B * (B - 2 * (b * d) + d * d)) = 1000000 * (B - 2 * (b * d) + d * d) * (N * N * (1000000 * B)) := by grind
    have s7 : N * 1000000 * (B - d * b) * (N * 1000000 * (B - d * b)) = N * 1000000 * (N * 1000000) * ((B - d * b) * (B - d * b)) := by grind
    have s8 : U2 * (Q + 1) * (U2 * (Q + 1)) = U2 * U2 * ((Q + 1) * (Q + 1)) := by grind
    omega
  have m1 : P * P + N * N * 1000000 * (d * a) ≤ N * U1 * (P + 1) := by
    have := Int.mul_le_mul_of_nonneg_left k1 (show 0 ≤ N by omega); grind
  have m2 : Q * Q - N * N * 1000000 * (d * b) ≤ N * U2 * (Q + 1) := by
    have := Int.mul_le_mul_of_nonneg_left k2 (show 0 ≤ N by omega); grind
  -- the slope
  have j : b * V * P ≤ a * W * (Q + 1) := by
    apply le_of_sq (Int.mul_nonneg (Int.mul_nonneg ha (by omega)) (by omega))
    have s1 := Int.mul_le_mul_of_nonneg_left p1 (Int.mul_nonneg (sq_nn b) (sq_nn V))
    have s2 := Int.mul_le_mul_of_nonneg_left (Int.le_of_lt q2) (Int.mul_nonneg (sq_nn a) (sq_nn W))
    have s3 := Int.mul_le_mul_of_nonneg_left hs (show 0 ≤ N * N * 1000000 from Int.mul_nonneg (sq_nn N) (by omega))
    grind
  have r : N * N * 1000000 * b ≤ (P + 1) * (Q + 1) := by
    apply le_of_sq (Int.mul_nonneg (by omega) (by omega))
    have s0 : b * b ≤ A * B := by
      have := Int.mul_le_mul_of_nonneg_right hA1 (show 0 ≤ B by omega); omega
    have s1 := Int.mul_le_mul (Int.le_of_lt p2) (Int.le_of_lt q2) nm (sq_nn _)
    have s2 := Int.mul_le_mul_of_nonneg_left s0 (sq_nn (N * N * 1000000))
    grind
  have hPQ : 0 < (P + 1) * (Q + 1) := Int.mul_pos (by omega) (by omega)
  -- all together
  have f1 := Int.mul_le_mul_of_nonneg_left m1 (show 0 ≤ W * (Q + 1) from Int.mul_nonneg (by omega) (by omega))
  have f2 := Int.mul_le_mul_of_nonneg_left m2 (show 0 ≤ V * (P + 1) from Int.mul_nonneg (by omega) (by omega))
  have f3 := Int.mul_le_mul_of_nonneg_left j (show 0 ≤ N * N * 1000000 * d from Int.mul_nonneg (Int.mul_nonneg (sq_nn N) (by omega)) hd)
  have f4 := Int.mul_le_mul_of_nonneg_left r hdV
  have f5 : (W * (P - 1) + V * (Q - 1) - d * V) * ((P + 1) * (Q + 1)) ≤ N * (W * U1 + V * U2) * ((P + 1) * (Q + 1)) := by
    have g1 := Int.mul_nonneg (show 0 ≤ W by omega) (show 0 ≤ Q + 1 by omega)
    have g2 := Int.mul_nonneg (show 0 ≤ V by omega) (show 0 ≤ P + 1 by omega)
    grind
  have f6 := Int.le_of_mul_le_mul_right f5 hPQ
  have f7 := Int.mul_le_mul_of_nonneg_left i1 (show 0 ≤ W by omega)
  have f8 := Int.mul_le_mul_of_nonneg_left i2 (show 0 ≤ V by omega)
  by_cases z : W * L1 + V * L2 ≤ W * U1 + V * U2
  · exact z
  · have := Int.mul_le_mul_of_nonneg_left (show W * U1 + V * U2 + 1 ≤ W * L1 + V * L2 by omega) (show 0 ≤ N by omega)
    grind

def timLo (c : Cr) (p : Int) : Int := tLo (lenL (p - c.x1) c.h1) c.v1 + tLo (lenL (c.x2 - p) c.h2) c.v2
def timHi (c : Cr) (p : Int) : Int := tHi (lenU (p - c.x1) c.h1) c.v1 + tHi (lenU (c.x2 - p) c.h2) c.v2
theorem slp_ge {c : Cr} {p : Int} (h : 0 ≤ slp c p) : (c.x2 < c.x1 → shA c (c.x1 - p) (p - c.x2) ≤ shB c (c.x1 - p) (p - c.x2)) ∧ (¬ c.x2 < c.x1 → shB c (p - c.x1) (c.x2 - p) ≤ shA c (p - c.x1) (c.x2 - p)) := by
  unfold slp at h
  constructor
  · intro e
    rw [if_pos e] at h
    have e1 := shA_n c (c.x1 - p) (p - c.x2); have e2 := shB_n c (c.x1 - p) (p - c.x2)
    rw [show -(c.x1 - p) = p - c.x1 by omega, show -(p - c.x2) = c.x2 - p by omega] at e1 e2
    have := (sgn_le (n := shA c (p - c.x1) (c.x2 - p) - shB c (p - c.x1) (c.x2 - p))).1 (by omega)
    omega
  · intro e
    rw [if_neg e] at h
    by_cases z : shB c (p - c.x1) (c.x2 - p) ≤ shA c (p - c.x1) (c.x2 - p)
    · exact z
    · have := sgn_neg (n := shA c (p - c.x1) (c.x2 - p) - shB c (p - c.x1) (c.x2 - p)) (by omega); omega
theorem slp_le {c : Cr} {p : Int} (h : slp c p ≤ 0) : (c.x2 < c.x1 → shB c (c.x1 - p) (p - c.x2) ≤ shA c (c.x1 - p) (p - c.x2)) ∧ (¬ c.x2 < c.x1 → shA c (p - c.x1) (c.x2 - p) ≤ shB c (p - c.x1) (c.x2 - p)) := by
  unfold slp at h
  constructor
  · intro e
    rw [if_pos e] at h
    have e1 := shA_n c (c.x1 - p) (p - c.x2); have e2 := shB_n c (c.x1 - p) (p - c.x2)
    rw [show -(c.x1 - p) = p - c.x1 by omega, show -(p - c.x2) = c.x2 - p by omega] at e1 e2
    by_cases z : shB c (c.x1 - p) (p - c.x2) ≤ shA c (c.x1 - p) (p - c.x2)
    · exact z
    · have := sgn_neg (n := shA c (p - c.x1) (c.x2 - p) - shB c (p - c.x1) (c.x2 - p)) (by omega); omega
  · intro e
    rw [if_neg e] at h
    have := sgn_le.1 h
    omega
section
variable {c : Cr} (ok : c.Ok) {p q U1 U2 : Int} (h0 : c.lo ≤ p) (h1 : p ≤ c.hi) (u1 : lenN (q - c.x1) c.h1 ≤ U1 * U1) (u2 : lenN (c.x2 - q) c.h2 ≤ U2 * U2) (n1 : 0 ≤ U1) (n2 : 0 ≤ U2)
include ok h0 h1 u1 u2 n1 n2
omit h1 in
theorem far_right (hs : 0 ≤ slp c p) (hq : p ≤ q) : timLo c p ≤ tHi U1 c.v1 + tHi U2 c.v2 := by
  have p1 := ok.h1; have p2 := ok.h2; have p3 := ok.v1; have p4 := ok.v2
  unfold Cr.lo at h0
  have l1 := lenL_sq (p - c.x1) c.h1; have l2 := lenL_sq (c.x2 - p) c.h2
  unfold timLo
  apply t_le (by omega) (by omega)
  obtain ⟨sa, sb⟩ := slp_ge hs
  unfold lenN at l1 l2 u1 u2
  by_cases e : c.x2 < c.x1
  · have sa := sa e
    have := tangent (a := p - c.x2) (b := c.x1 - p) (d := q - p) (H := c.h2) (K := c.h1) (V := c.v2) (W := c.v1) (L1 := lenL (c.x2 - p) c.h2) (L2 := lenL (p - c.x1) c.h1) (U1 := U2) (U2 := U1)
      (by omega) (by omega) (by omega) (by omega) (by omega) (by rw [show p - c.x2 = -(c.x2 - p) by omega, Int.neg_mul_neg]; exact l2) (by rw [show c.x1 - p = -(p - c.x1) by omega, Int.neg_mul_neg]; exact l1)
      (by rw [show p - c.x2 + (q - p) = -(c.x2 - q) by omega, Int.neg_mul_neg]; exact u2) (by rw [show c.x1 - p - (q - p) = -(q - c.x1) by omega, Int.neg_mul_neg]; exact u1) n2 n1 sa
    omega
  · have sb := sb e
    exact tangent (a := p - c.x1) (b := c.x2 - p) (d := q - p) (H := c.h1) (K := c.h2) (V := c.v1) (W := c.v2) (by omega) (by omega) (by omega) (by omega) (by omega) l1 l2
      (by rw [show p - c.x1 + (q - p) = q - c.x1 by omega]; exact u1) (by rw [show c.x2 - p - (q - p) = c.x2 - q by omega]; exact u2) n1 n2 sb
omit h0 in
theorem far_left (hs : slp c p ≤ 0) (hq : q ≤ p) : timLo c p ≤ tHi U1 c.v1 + tHi U2 c.v2 := by
  have p1 := ok.h1; have p2 := ok.h2; have p3 := ok.v1; have p4 := ok.v2
  unfold Cr.hi at h1
  have l1 := lenL_sq (p - c.x1) c.h1; have l2 := lenL_sq (c.x2 - p) c.h2
  unfold timLo
  apply t_le (by omega) (by omega)
  obtain ⟨sa, sb⟩ := slp_le hs
  unfold lenN at l1 l2 u1 u2
  by_cases e : c.x2 < c.x1
  · have sa := sa e
    exact tangent (a := c.x1 - p) (b := p - c.x2) (d := p - q) (H := c.h1) (K := c.h2) (V := c.v1) (W := c.v2) (by omega) (by omega) (by omega) (by omega) (by omega)
      (by rw [show c.x1 - p = -(p - c.x1) by omega, Int.neg_mul_neg]; exact l1) (by rw [show p - c.x2 = -(c.x2 - p) by omega, Int.neg_mul_neg]; exact l2)
      (by rw [show c.x1 - p + (p - q) = -(q - c.x1) by omega, Int.neg_mul_neg]; exact u1) (by rw [show p - c.x2 - (p - q) = -(c.x2 - q) by omega, Int.neg_mul_neg]; exact u2) n1 n2 sa
  · have sb := sb e
    have := tangent (a := c.x2 - p) (b := p - c.x1) (d := p - q) (H := c.h2) (K := c.h1) (V := c.v2) (W := c.v1) (L1 := lenL (c.x2 - p) c.h2) (L2 := lenL (p - c.x1) c.h1) (U1 := U2) (U2 := U1)
      (by omega) (by omega) (by omega) (by omega) (by omega) l2 l1
      (by rw [show c.x2 - p + (p - q) = c.x2 - q by omega]; exact u2) (by rw [show p - c.x1 - (p - q) = q - c.x1 by omega]; exact u1) n2 n1 sb
    omega
end
theorem slp_hi {c : Cr} (ok : c.Ok) : 0 ≤ slp c c.hi := by
  unfold slp Cr.hi
  have nn : ∀ a b, 0 ≤ shA c a b ∧ 0 ≤ shB c a b := by
    intro a b
    obtain ⟨H1, H2, V1, V2⟩ := ok.pos
    unfold shA shB
    have := sq_nn a; have := sq_nn b
    exact ⟨Int.mul_nonneg (Int.mul_nonneg (by omega) (by omega)) (by omega), Int.mul_nonneg (Int.mul_nonneg (by omega) (by omega)) (by omega)⟩
  by_cases e : c.x2 < c.x1
  · rw [if_pos e, show max c.x1 c.x2 = c.x1 by omega, show c.x1 - c.x1 = 0 by omega]
    have z : shA c 0 (c.x2 - c.x1) = 0 := by unfold shA; simp
    rw [z]
    have := (nn 0 (c.x2 - c.x1)).2
    have h := (sgn_le (n := 0 - shB c 0 (c.x2 - c.x1))).2 (by omega)
    omega
  · rw [if_neg e, show max c.x1 c.x2 = c.x2 by omega, show c.x2 - c.x2 = 0 by omega]
    have z : shB c (c.x2 - c.x1) 0 = 0 := by unfold shB; simp
    rw [z]
    have := (nn (c.x2 - c.x1) 0).1
    have h := (sgn_le (n := -(shA c (c.x2 - c.x1) 0 - 0))).2 (by omega)
    rw [sgn_n] at h
    omega
/-- The least of both places' ends. -/
def mLo (c : Cr) : Int := if crs c + 1 ≤ c.hi then min (timLo c (crs c)) (timLo c (crs c + 1)) else timLo c (crs c)
def mHi (c : Cr) : Int := if crs c + 1 ≤ c.hi then min (timHi c (crs c)) (timHi c (crs c + 1)) else timHi c (crs c)
def leLo (c : Cr) : Int := max 0 (mLo c - upD 10000000 (c.v1 * c.h1) - upD 10000000 (c.v2 * c.h2))
/-- NO PLACE TAKES LESS TIME. -/
theorem least_all {c : Cr} (ok : c.Ok) {q U1 U2 : Int} (u1 : lenN (q - c.x1) c.h1 ≤ U1 * U1) (u2 : lenN (c.x2 - q) c.h2 ≤ U2 * U2) (n1 : 0 ≤ U1) (n2 : 0 ≤ U2) : mLo c ≤ tHi U1 c.v1 + tHi U2 c.v2 := by
  have k := crs_is ok
  have k1 := k.lo; have k2 := k.hi; have k3 := k.le
  unfold mLo
  by_cases z : q ≤ crs c
  · have := far_left ok k2 u1 u2 n1 n2 k3 z
    split <;> omega
  · by_cases y : crs c + 1 ≤ c.hi
    · rw [if_pos y]
      have := far_right ok (p := crs c + 1) (by omega) u1 u2 n1 n2 (by have := k.gt y; omega) (by omega)
      omega
    · rw [if_neg y]
      have e : crs c = c.hi := by omega
      have := far_right ok (p := crs c) k1 u1 u2 n1 n2 (by rw [e]; exact slp_hi ok) (by omega)
      omega
theorem upD_nn {n v : Int} (h : 0 ≤ n) (hv : 0 < v) : 0 ≤ upD n v := by
  have := upD_ge (n := n) hv
  by_cases z : 0 ≤ upD n v
  · exact z
  · have := Int.mul_neg_of_pos_of_neg hv (show upD n v < 0 by omega); omega
theorem tHi_nn {u v : Int} (h : 0 ≤ u) (hv : 0 < v) : 0 ≤ tHi u v := upD_nn (by omega) hv
theorem leLo_all {c : Cr} (ok : c.Ok) {q U1 U2 : Int} (u1 : lenN (q - c.x1) c.h1 ≤ U1 * U1) (u2 : lenN (c.x2 - q) c.h2 ≤ U2 * U2) (n1 : 0 ≤ U1) (n2 : 0 ≤ U2) : leLo c ≤ tHi U1 c.v1 + tHi U2 c.v2 := by
  have p1 := ok.h1; have p2 := ok.h2; have p3 := ok.v1; have p4 := ok.v2
  have := least_all ok u1 u2 n1 n2
  have a := upD_nn (n := 10000000) (by omega) (Int.mul_pos (show 0 < c.v1 by omega) (show 0 < c.h1 by omega))
  have b := upD_nn (n := 10000000) (by omega) (Int.mul_pos (show 0 < c.v2 by omega) (show 0 < c.h2 by omega))
  have d := tHi_nn n1 (show 0 < c.v1 by omega)
  have e := tHi_nn n2 (show 0 < c.v2 by omega)
  unfold leLo
  omega
theorem leLo_place {c : Cr} (ok : c.Ok) (q : Int) : leLo c ≤ timHi c q := leLo_all ok (lenU_sq _ _) (lenU_sq _ _) (lenU_nn _ _) (lenU_nn _ _)
end Go.Ray1
