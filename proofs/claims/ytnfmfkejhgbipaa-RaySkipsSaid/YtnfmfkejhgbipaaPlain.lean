import Derived.Test.YtnfmfkejhgbipaaRay
/-! Chapter 1, plain: ways of several legs, the straight way, what is fastest passes. -/
namespace Go.Ray1

theorem lenN_n2 (x z : Int) : lenN (-x) (-z) = lenN x z := by unfold lenN; rw [Int.neg_mul_neg, Int.neg_mul_neg]
theorem lenN_n (x z : Int) : lenN (-x) z = lenN x z := by unfold lenN; rw [Int.neg_mul_neg]
theorem lenL_n2 (x z : Int) : lenL (-x) (-z) = lenL x z := by unfold lenL; rw [lenN_n2]
theorem lenU_n2 (x z : Int) : lenU (-x) (-z) = lenU x z := by unfold lenU; rw [lenN_n2]
theorem cauchy {x z y w U W : Int} (hU : 0 ≤ U) (hW : 0 ≤ W) (h1 : lenN x z ≤ U * U) (h2 : lenN y w ≤ W * W) : 1000000 * (x * y + z * w) ≤ U * W := by
  apply le_of_sq (Int.mul_nonneg hU hW)
  have n2 := lenN_nn y w
  have e := Int.mul_le_mul h1 h2 n2 (sq_nn U)
  unfold lenN at e
  have f := sq_nn (x * w - z * y)
  have g : (x * y + z * w) * (x * y + z * w) + (x * w - z * y) * (x * w - z * y) = (x * x + z * z) * (y * y + w * w) := by grind
  have i : 1000000 * (x * x + z * z) * (1000000 * (y * y + w * w)) = 1000000000000 * ((x * x + z * z) * (y * y + w * w)) := by grind
  have j : 1000000 * (x * y + z * w) * (1000000 * (x * y + z * w)) = 1000000000000 * ((x * y + z * w) * (x * y + z * w)) := by grind
  have k : U * W * (U * W) = U * U * (W * W) := by grind
  rw [j, k]
  rw [i] at e
  omega
theorem lenN_add (x z y w : Int) : lenN (x + y) (z + w) = lenN x z + lenN y w + 2 * (1000000 * (x * y + z * w)) := by unfold lenN; grind
/-- A way by a corner is not shorter. -/
theorem mink {x z y w U W : Int} (hU : 0 ≤ U) (hW : 0 ≤ W) (h1 : lenN x z ≤ U * U) (h2 : lenN y w ≤ W * W) : lenN (x + y) (z + w) ≤ (U + W) * (U + W) := by
  have c := cauchy hU hW h1 h2
  rw [lenN_add]
  have e : (U + W) * (U + W) = U * U + W * W + 2 * (U * W) := by grind
  omega
theorem upD_add {a b v : Int} (hv : 0 < v) : upD (a + b) v ≤ upD a v + upD b v := by
  unfold upD
  have h : -a / v + -b / v ≤ -(a + b) / v := by
    apply (Int.le_ediv_iff_mul_le hv).2
    have h1 := Int.mul_ediv_self_le (x := -a) (k := v) (by omega)
    have h2 := Int.mul_ediv_self_le (x := -b) (k := v) (by omega)
    rw [Int.add_mul, Int.mul_comm (-a / v), Int.mul_comm (-b / v)]
    omega
  omega
theorem tHi_add {u w v : Int} (hv : 0 < v) : tHi (u + w) v ≤ tHi u v + tHi w v := by
  unfold tHi
  rw [Int.add_mul]
  exact upD_add hv
theorem tLo_tHi {l u v : Int} (hv : 0 < v) (h : l ≤ u) : tLo l v ≤ tHi u v := by
  have a := tLo_le (l := l) hv; have b := tHi_ge (u := u) hv
  exact Int.le_of_mul_le_mul_left (show v * tLo l v ≤ v * tHi u v by omega) hv
theorem mHi_place (c : Cr) : ∃ q, mHi c = timHi c q := by
  unfold mHi
  split
  · by_cases z : timHi c (crs c) ≤ timHi c (crs c + 1)
    · exact ⟨crs c, by omega⟩
    · exact ⟨crs c + 1, by omega⟩
  · exact ⟨crs c, rfl⟩
/-- Deeper is not sooner. -/
theorem deeper {x1 h1 v1 x2 h2 v2 h3 : Int} (ok : (⟨x1, h1, v1, x2, h2, v2⟩ : Cr).Ok) (h : h2 ≤ h3) : leLo ⟨x1, h1, v1, x2, h2, v2⟩ ≤ mHi ⟨x1, h1, v1, x2, h3, v2⟩ := by
  obtain ⟨q, e⟩ := mHi_place ⟨x1, h1, v1, x2, h3, v2⟩
  rw [e]
  have p := ok.h2
  have hh : lenN (x2 - q) h2 ≤ lenU (x2 - q) h3 * lenU (x2 - q) h3 := by
    have a := lenU_sq (x2 - q) h3
    have b : lenN (x2 - q) h2 ≤ lenN (x2 - q) h3 := by
      unfold lenN
      have := sq_le (a := h2) (b := h3) (by show 0 ≤ h2; have : 1 ≤ h2 := p.1; omega) h
      omega
    omega
  exact leLo_all ok (q := q) (lenU_sq _ _) hh (lenU_nn _ _) (lenU_nn _ _)
/-- The straight way: how much longer the way by the crossing may be. -/
theorem straight {a b h k L1 L2 U : Int} (ha : 0 ≤ a) (hb : 0 ≤ b) (hh : 1 ≤ h) (hk : 1 ≤ k) (l1 : L1 * L1 ≤ lenN a h) (l2 : L2 * L2 ≤ lenN b k) (hU : 0 ≤ U)
    (u : lenN (a + b) (h + k) ≤ U * U) (d0 : -(h + k) ≤ a * k - b * h) (d1 : a * k - b * h ≤ h + k) : (L1 + L2 - U) * (h * k) ≤ 1000 * (h + k) := by
  have hk1 : 1 ≤ h * k := by have := Int.mul_le_mul hh hk (by omega) (by omega); omega
  by_cases hE : L1 + L2 - U ≤ 0
  · have := Int.mul_le_mul_of_nonneg_right hE (show 0 ≤ h * k by omega); omega
  · have hab := Int.mul_nonneg ha hb
    generalize hM : a * b + h * k = M
    have M1 : h * k ≤ M := by omega
    have e1 := lenN_add a h b k
    rw [hM] at e1
    -- the product of both
    have pp : L1 * L2 * (L1 * L2) ≤ 1000000 * M * (1000000 * M) + 1000000000000 * ((h + k) * (h + k)) := by
      have q1 := Int.mul_le_mul l1 l2 (sq_nn L2) (lenN_nn a h)
      have q2 : L1 * L2 * (L1 * L2) = L1 * L1 * (L2 * L2) := by grind
      have q3 := sq_b (a := a * k - b * h) (b := h + k) ⟨d0, d1⟩
      have q4 : lenN a h * lenN b k = 1000000000000 * (M * M + (a * k - b * h) * (a * k - b * h)) := by subst hM; unfold lenN; grind
      have q5 : 1000000 * M * (1000000 * M) = 1000000000000 * (M * M) := by grind
      rw [q2, q5]
      omega
    have sum : (L1 + L2 - U) * (L1 + L2 + U) ≤ 2 * (L1 * L2) - 2 * (1000000 * M) := by
      have q1 : (L1 + L2 - U) * (L1 + L2 + U) = L1 * L1 + L2 * L2 + 2 * (L1 * L2) - U * U := by grind
      omega
    have uu : 1000 * (h + k) ≤ U := by
      apply le_of_sq hU
      have q1 : 1000 * (h + k) * (1000 * (h + k)) = 1000000 * ((h + k) * (h + k)) := by grind
      have q2 := sq_nn (a + b)
      unfold lenN at u
      omega
    generalize L1 * L2 = P at *
    have hS : 2000 * (h + k) ≤ L1 + L2 + U := by omega
    generalize L1 + L2 + U = S at *
    generalize L1 + L2 - U = E at *
    have g1 := Int.mul_le_mul_of_nonneg_left hS (show 0 ≤ E by omega)
    have g2 : E * (2000 * (h + k)) = 2 * (E * (1000 * (h + k))) := by grind
    have g3 : E * (1000 * (h + k)) ≤ P - 1000000 * M := by omega
    have g4 : 0 ≤ E * (1000 * (h + k)) := Int.mul_nonneg (by omega) (by omega)
    generalize hQ : 1000000 * M = Q at *
    have Q0 : 0 ≤ Q := by omega
    have g5 : (P - Q) * (2 * Q) ≤ (P - Q) * (P + Q) := Int.mul_le_mul_of_nonneg_left (by omega) (by omega)
    have g6 : (P - Q) * (P + Q) = P * P - Q * Q := by grind
    have g7 := Int.mul_le_mul_of_nonneg_right g3 (show 0 ≤ 2 * Q by omega)
    have g8 : E * (1000 * (h + k)) * (2 * Q) = (h + k) * (2000 * (E * Q)) := by grind
    have g9 : (h + k) * (2000 * (E * Q)) ≤ (h + k) * (1000000000000 * (h + k)) := by
      have : (h + k) * (1000000000000 * (h + k)) = 1000000000000 * ((h + k) * (h + k)) := by grind
      omega
    have g10 := Int.le_of_mul_le_mul_left g9 (show 0 < h + k by omega)
    have g11 : E * Q = 1000000 * (E * M) := by subst hQ; grind
    have g12 := Int.mul_le_mul_of_nonneg_left M1 (show 0 ≤ E by omega)
    omega
theorem sl_le {a b v h k : Int} (hb : 0 ≤ b) (hh : 1 ≤ h) (hv : 1 ≤ v) (s : a * a * (v * v) * (b * b + k * k) ≤ b * b * (v * v) * (a * a + h * h)) : a * k ≤ b * h := by
  apply le_of_sq (Int.mul_nonneg hb (by omega))
  have e1 : a * a * (v * v) * (b * b + k * k) = v * v * (a * a * (b * b) + a * k * (a * k)) := by grind
  have e2 : b * b * (v * v) * (a * a + h * h) = v * v * (a * a * (b * b) + b * h * (b * h)) := by grind
  rw [e1, e2] at s
  have := Int.le_of_mul_le_mul_left s (sq_pos (a := v) (by omega))
  omega
/-- With one speed: how far the crossing is from the straight way. -/
theorem one_near {c : Cr} (ok : c.Ok) (e : c.v1 = c.v2) : ∃ a b : Int, 0 ≤ a ∧ 0 ≤ b ∧ lenN a c.h1 = lenN (crs c - c.x1) c.h1 ∧ lenN b c.h2 = lenN (c.x2 - crs c) c.h2 ∧ lenN (a + b) (c.h1 + c.h2) = lenN (c.x2 - c.x1) (c.h1 + c.h2) ∧ -(c.h1 + c.h2) ≤ a * c.h2 - b * c.h1 ∧ a * c.h2 - b * c.h1 ≤ c.h1 + c.h2 := by
  have k := crs_is ok
  have p1 := ok.h1; have p2 := ok.h2; have p3 := ok.v1
  have k1 := k.lo; have k2 := k.hi; have k3 := k.le; have k4 := k.gt
  generalize crs c = p at *
  obtain ⟨sa, sb⟩ := slp_le k3
  have h1 : c.lo = min c.x1 c.x2 := rfl
  have h2 : c.hi = max c.x1 c.x2 := rfl
  by_cases z : c.x2 < c.x1
  · have s1 := sa z
    unfold shA shB at s1
    rw [← e] at s1
    have t1 := sl_le (a := p - c.x2) (b := c.x1 - p) (h := c.h2) (k := c.h1) (v := c.v1) (by omega) (by omega) (by omega) s1
    refine ⟨c.x1 - p, p - c.x2, by omega, by omega, ?_, ?_, ?_, by omega, ?_⟩
    · rw [← lenN_n, show -(c.x1 - p) = p - c.x1 by omega]
    · rw [← lenN_n, show -(p - c.x2) = c.x2 - p by omega]
    · rw [← lenN_n, show -(c.x1 - p + (p - c.x2)) = c.x2 - c.x1 by omega]
    · by_cases y : p + 1 ≤ c.hi
      · have s2 := (slp_ge (c := c) (p := p + 1) (by have := k4 y; omega)).1 z
        unfold shA shB at s2
        rw [← e] at s2
        have t2 := sl_le (a := c.x1 - (p + 1)) (b := p + 1 - c.x2) (h := c.h1) (k := c.h2) (v := c.v1) (by omega) (by omega) (by omega) s2
        rw [show c.x1 - (p + 1) = (c.x1 - p) - 1 by omega, show p + 1 - c.x2 = (p - c.x2) + 1 by omega, Int.sub_mul, Int.add_mul] at t2
        omega
      · rw [show c.x1 - p = 0 by omega, Int.zero_mul]
        have := Int.mul_nonneg (show 0 ≤ p - c.x2 by omega) (show 0 ≤ c.h1 by omega)
        omega
  · have s1 := sb z
    unfold shA shB at s1
    rw [← e] at s1
    have t1 := sl_le (a := p - c.x1) (b := c.x2 - p) (h := c.h1) (k := c.h2) (v := c.v1) (by omega) (by omega) (by omega) s1
    refine ⟨p - c.x1, c.x2 - p, by omega, by omega, rfl, rfl, ?_, ?_, by omega⟩
    · rw [show p - c.x1 + (c.x2 - p) = c.x2 - c.x1 by omega]
    · by_cases y : p + 1 ≤ c.hi
      · have s2 := (slp_ge (c := c) (p := p + 1) (by have := k4 y; omega)).2 z
        unfold shA shB at s2
        rw [← e] at s2
        have t2 := sl_le (a := c.x2 - (p + 1)) (b := p + 1 - c.x1) (h := c.h2) (k := c.h1) (v := c.v1) (by omega) (by omega) (by omega) s2
        rw [show c.x2 - (p + 1) = (c.x2 - p) - 1 by omega, show p + 1 - c.x1 = (p - c.x1) + 1 by omega, Int.sub_mul, Int.add_mul] at t2
        omega
      · rw [show c.x2 - p = 0 by omega, Int.zero_mul]
        have := Int.mul_nonneg (show 0 ≤ p - c.x1 by omega) (show 0 ≤ c.h2 by omega)
        omega
theorem one_lo {c : Cr} (ok : c.Ok) (e : c.v1 = c.v2) : tLo (lenL (c.x2 - c.x1) (c.h1 + c.h2)) c.v1 ≤ mHi c := by
  obtain ⟨q, h⟩ := mHi_place c
  rw [h]
  have p3 := ok.v1
  unfold timHi
  rw [← e]
  have m := mink (x := q - c.x1) (z := c.h1) (y := c.x2 - q) (w := c.h2) (lenU_nn _ _) (lenU_nn _ _) (lenU_sq _ _) (lenU_sq _ _)
  rw [show q - c.x1 + (c.x2 - q) = c.x2 - c.x1 by omega] at m
  have n1 := lenU_nn (q - c.x1) c.h1; have n2 := lenU_nn (c.x2 - q) c.h2
  have l := le_of_sq (x := lenU (q - c.x1) c.h1 + lenU (c.x2 - q) c.h2) (y := lenL (c.x2 - c.x1) (c.h1 + c.h2)) (by omega) (Int.le_trans (lenL_sq _ _) m)
  have t := tLo_tHi (v := c.v1) (by omega) l
  have a := tHi_add (u := lenU (q - c.x1) c.h1) (w := lenU (c.x2 - q) c.h2) (v := c.v1) (by omega)
  omega
theorem one_hi {c : Cr} (ok : c.Ok) (e : c.v1 = c.v2) : leLo c ≤ tHi (lenU (c.x2 - c.x1) (c.h1 + c.h2)) c.v1 := by
  obtain ⟨a, b, a0, b0, e1, e2, e3, d0, d1⟩ := one_near ok e
  have p1 := ok.h1; have p2 := ok.h2; have p3 := ok.v1
  have l1 := lenL_sq (crs c - c.x1) c.h1; have l2 := lenL_sq (c.x2 - crs c) c.h2
  have u := lenU_sq (c.x2 - c.x1) (c.h1 + c.h2)
  have n3 := lenU_nn (c.x2 - c.x1) (c.h1 + c.h2)
  rw [← e1] at l1
  rw [← e2] at l2
  rw [← e3] at u
  have s := straight a0 b0 p1.1 p2.1 l1 l2 n3 u d0 d1
  have m : mLo c ≤ timLo c (crs c) := by unfold mLo; split <;> omega
  have nn := tHi_nn n3 (show 0 < c.v1 by omega)
  unfold timLo at m
  unfold leLo
  rw [← e] at m ⊢
  have t1 := tLo_le (l := lenL (crs c - c.x1) c.h1) (v := c.v1) (by omega)
  have t2 := tLo_le (l := lenL (c.x2 - crs c) c.h2) (v := c.v1) (by omega)
  have t3 := tHi_ge (u := lenU (c.x2 - c.x1) (c.h1 + c.h2)) (v := c.v1) (by omega)
  have t4 := upD_ge (n := 10000000) (v := c.v1 * c.h1) (Int.mul_pos (by omega) (by omega))
  have t5 := upD_ge (n := 10000000) (v := c.v1 * c.h2) (Int.mul_pos (by omega) (by omega))
  generalize tLo (lenL (crs c - c.x1) c.h1) c.v1 = T1 at *
  generalize tLo (lenL (c.x2 - crs c) c.h2) c.v1 = T2 at *
  generalize tHi (lenU (c.x2 - c.x1) (c.h1 + c.h2)) c.v1 = T3 at *
  generalize upD 10000000 (c.v1 * c.h1) = T4 at *
  generalize upD 10000000 (c.v1 * c.h2) = T5 at *
  generalize lenL (crs c - c.x1) c.h1 = L1 at *
  generalize lenL (c.x2 - crs c) c.h2 = L2 at *
  generalize lenU (c.x2 - c.x1) (c.h1 + c.h2) = U at *
  generalize mLo c = m0 at *
  generalize c.v1 = v at *
  generalize c.h1 = h at *
  generalize c.h2 = k at *
  have key : T1 + T2 - T4 - T5 - T3 ≤ 0 := by
    by_cases z : T1 + T2 - T4 - T5 - T3 ≤ 0
    · exact z
    · have hk0 : 0 < h * k := Int.mul_pos (by omega) (by omega)
      have f0 := Int.mul_pos (Int.mul_pos (show 0 < v by omega) hk0) (show 0 < T1 + T2 - T4 - T5 - T3 by omega)
      have f1 := Int.mul_le_mul_of_nonneg_right (show v * T1 + v * T2 - v * T3 ≤ 10000 * (L1 + L2 - U) by omega) (Int.le_of_lt hk0)
      have f2 := Int.mul_le_mul_of_nonneg_right t4 (show 0 ≤ k by omega)
      have f3 := Int.mul_le_mul_of_nonneg_right t5 (show 0 ≤ h by omega)
      have g : v * (h * k) * (T1 + T2 - T4 - T5 - T3) = (v * T1 + v * T2 - v * T3) * (h * k) - v * h * T4 * k - v * k * T5 * h := by grind
      have g2 : 10000 * (L1 + L2 - U) * (h * k) = 10000 * ((L1 + L2 - U) * (h * k)) := by grind
      omega
  omega
/-- What is fastest passes. -/
theorem pass_of {a b v w h k : Int} (hw : 1 ≤ w) (hk : 1 ≤ k) (s : a * a * (w * w) * (b * b + k * k) ≤ b * b * (v * v) * (a * a + h * h)) : a * a * w * w ≤ (a * a + h * h) * v * v := by
  by_cases z : b = 0
  · subst z
    have e : (0 : Int) * 0 * (v * v) * (a * a + h * h) = 0 := by simp
    rw [e] at s
    have q : a = 0 := by
      by_cases y : a = 0
      · exact y
      · have := Int.mul_pos (Int.mul_pos (sq_pos y) (sq_pos (a := w) (by omega))) (show 0 < (0 : Int) * 0 + k * k by have := sq_pos (a := k) (by omega); omega)
        omega
    subst q
    have := Int.mul_nonneg (sq_nn h) (sq_nn v)
    have e2 : (0 * 0 + h * h) * v * v = h * h * (v * v) := by grind
    rw [e2]
    simp
    exact this
  · have hb := sq_pos z
    have n : 0 ≤ a * a * (w * w) * (k * k) := Int.mul_nonneg (Int.mul_nonneg (sq_nn a) (sq_nn w)) (sq_nn k)
    have e1 : a * a * (w * w) * (b * b + k * k) = b * b * (a * a * w * w) + a * a * (w * w) * (k * k) := by grind
    have e2 : b * b * (v * v) * (a * a + h * h) = b * b * ((a * a + h * h) * v * v) := by grind
    rw [e1, e2] at s
    exact Int.le_of_mul_le_mul_left (show b * b * (a * a * w * w) ≤ b * b * ((a * a + h * h) * v * v) by omega) hb
/-- One leg more. -/
theorem way_step {sx ax wx D T az wz U S v : Int} (hv : 0 < v) (hU : 0 ≤ U) (h : lenN (ax - sx) D ≤ U * U) (hS : tHi U v ≤ S) (hd : (az - wz) * (az - wz) = T * T) :
    0 ≤ U + lenU (ax - wx) (az - wz) ∧ lenN (wx - sx) (D + T) ≤ (U + lenU (ax - wx) (az - wz)) * (U + lenU (ax - wx) (az - wz)) ∧ tHi (U + lenU (ax - wx) (az - wz)) v ≤ S + tHi (lenU (ax - wx) (az - wz)) v := by
  have n := lenU_nn (ax - wx) (az - wz)
  have q := lenU_sq (ax - wx) (az - wz)
  have e : lenN (wx - ax) T = lenN (ax - wx) (az - wz) := by
    rw [← lenN_n, show -(wx - ax) = ax - wx by omega]
    unfold lenN; rw [hd]
  rw [← e] at q
  have m := mink hU n h q
  rw [show ax - sx + (wx - ax) = wx - sx by omega] at m
  have a := tHi_add (u := U) (w := lenU (ax - wx) (az - wz)) hv
  exact ⟨by omega, m, by omega⟩
theorem way_first (sx v : Int) : lenN (sx - sx) 0 ≤ 0 * 0 ∧ tHi 0 v ≤ 0 := by
  constructor
  · rw [Int.sub_self]; decide
  · unfold tHi upD; simp
theorem way_end {c : Cr} (ok : c.Ok) {sx U S : Int} (hU : 0 ≤ U) (h : lenN (c.x2 - sx) c.h2 ≤ U * U) (hS : tHi U c.v2 ≤ S) : leLo c ≤ tHi (lenU (c.x1 - sx) (-c.h1)) c.v1 + S := by
  have q := lenU_sq (c.x1 - sx) (-c.h1)
  rw [← lenN_n2, Int.neg_neg, show -(c.x1 - sx) = sx - c.x1 by omega] at q
  have := leLo_all ok (q := sx) q h (lenU_nn _ _) hU
  omega
end Go.Ray1
