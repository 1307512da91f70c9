import Derived.Test.YtfooefkgdcjlhaaLagLaw
import Derived.Test.YtfooefkgdcjlhaaGains
import Derived.Test.YtfooefkgdcjlhaaPeak
/-! A trace that is delayed and stronger: plain. -/
namespace Go.Proofs.Ytfooefkgdcjlhaa
open Go.RowKit Go.Cpl

/-- Three samples of silence in front, and zeros behind. -/
def ecX (l : List Int) : List Int := [0, 0, 0] ++ l
def ecP (l : List Int) : List Int := (List.range 64).map (nthI (ecX l))
theorem ecP_length (l : List Int) : (ecP l).length = 64 := by simp [ecP]
theorem ecP_at {l : List Int} {i : Nat} (h : i < 64) : nthI (ecP l) i = nthI (ecX l) i := by
  rw [nthI_eq (by rw [ecP_length]; exact h)]; simp [ecP]
theorem ecX_at (l : List Int) (i : Nat) : nthI (ecX l) i = if i < 3 then 0 else nthI l (i - 3) := by
  unfold ecX nthI
  match i with
  | 0 => rfl
  | 1 => rfl
  | 2 => rfl
  | i + 3 => rw [if_neg (by omega)]; simp
theorem ec_mk {l : List Int} {n : Nat} (hn : l.length = n) : mkT (ecX l) (3 + n) = mkT (ecP l) 64 := by
  unfold mkT
  apply List.ext_getElem
  · rw [done_length, done_length]
  · intro i h1 h2
    rw [done_length] at h1
    simp only [done, List.getElem_map, List.getElem_range, if_pos h1]
    rw [ecP_at h1]
    by_cases q : i < 3 + n
    · rw [if_pos q]
    · rw [if_neg q, nthI_out (by simp [ecX]; omega)]
      kernel_rfl
section
variable {l : List Int} {n : Nat} (hn : l.length = n) (h20 : n ≤ 20) (hl : ∀ i : Nat, i < n → -200 ≤ nthI l i ∧ nthI l i ≤ 200)
include hn hl
theorem ecP_bd (i : Nat) : -200 ≤ nthI (ecP l) i ∧ nthI (ecP l) i ≤ 200 := by
  by_cases h : i < 64
  · rw [ecP_at h, ecX_at]
    split
    · omega
    · by_cases q : i - 3 < n
      · exact hl _ q
      · rw [nthI_out (by omega)]; omega
  · rw [nthI_out (by rw [ecP_length]; omega)]; omega
theorem ecP_small : Small (ecP l) := fun i => by have := ecP_bd hn hl i; omega
omit hl in
include h20 in
theorem ecP_far {i : Nat} (h : 23 ≤ i) : nthI (ecP l) i = 0 := by
  by_cases q : i < 64
  · rw [ecP_at q, ecX_at, if_neg (by omega), nthI_out (by omega)]
  · exact nthI_out (by rw [ecP_length]; omega)
omit hl hn in
theorem ecP_near {i : Nat} (h : i < 3) : nthI (ecP l) i = 0 := by
  rw [ecP_at (by omega), ecX_at, if_pos h]
omit hl in
include h20 in
theorem ec_some (h : nz l n = true) : ∃ i, i < 64 ∧ nthI (ecP l) i ≠ 0 := by
  obtain ⟨i, h1, h2⟩ := (nz_iff _ _).1 h
  refine ⟨i + 3, by omega, ?_⟩
  rw [ecP_at (by omega), ecX_at, if_neg (by omega), show i + 3 - 3 = i by omega]
  exact h2
end
/-- All numbers times a gain. -/
def scL (x : List Int) (g : Int) : List Int := (List.range 64).map fun i => nthI x i * g
theorem scL_length (x : List Int) (g : Int) : (scL x g).length = 64 := by simp [scL]
theorem scL_at {x : List Int} {g : Int} {i : Nat} (h : i < 64) : nthI (scL x g) i = nthI x i * g := by
  rw [nthI_eq (by rw [scL_length]; exact h)]; simp [scL]
section
variable {x : List Int} {g : Int} (hx : ∀ i, -200 ≤ nthI x i ∧ nthI x i ≤ 200) (h1 : 1 ≤ g) (h10 : g ≤ 10)
include hx h1 h10
theorem sc_bd (i : Nat) : -2000 ≤ nthI x i * g ∧ nthI x i * g ≤ 2000 := by
  have a1 := Int.mul_le_mul_of_nonneg_right (hx i).2 (show 0 ≤ g by omega)
  have a2 := Int.mul_le_mul_of_nonneg_right (hx i).1 (show 0 ≤ g by omega)
  omega
theorem scL_small : Small (scL x g) := by
  intro i
  by_cases h : i < 64
  · rw [scL_at h]; have := sc_bd hx h1 h10 i; omega
  · rw [nthI_out (by rw [scL_length]; omega)]; omega
omit h1 h10 in
omit hx in
theorem ec_N (k : Nat) : gnN x g 1 k = nthI x k * g := by unfold gnN rounded_a_r; omega
theorem ec_F (k : Nat) : gnF x g 1 k = nthI x k * g := by unfold gnF; rw [ec_N, mx_eq, mn_eq]; have := sc_bd hx h1 h10 k; omega
theorem ec_C : ∀ k, gnC x g 1 k = 0
  | 0 => rfl
  | k + 1 => by simp only [gnC]; rw [ec_C k, ec_F hx h1 h10, ec_N]; simp
theorem ec_L : gnL x g 1 = scL x g := by
  unfold gnL scL
  apply List.map_congr_left
  intro i _
  exact ec_F hx h1 h10 i
end
theorem ec_low (g : Int) : isLow g 1 = true := by
  unfold isLow
  rw [euc_step (by omega), Int.tmod_one, euc_zero]
  decide
theorem ec_gain {x : List Int} {g : Int} (hl : x.length = 64) (hx : ∀ i, -200 ≤ nthI x i ∧ nthI x i ≤ 200) (h1 : 1 ≤ g) (h10 : g ≤ 10) : gnRes (mkT x 64) g 1 = (mkT (scL x g) 64, 0, 0) := by
  have sm : Small x := fun i => by have := hx i; omega
  unfold gnRes
  rw [if_neg (by rw [mkT_right sm]; simp), if_pos (ec_low g), if_pos ⟨inB_true.2 (by omega), by omega⟩, mkT_nums hl sm, ec_L hx h1 h10, ec_C hx h1 h10]
/-- The squares are as many samples later, and stronger. -/
theorem sq_late {x : List Int} {g : Int} {b k : Nat} (h : k + b < 61) : sqP (shL (scL x g) b) (k + b) = g * g * sqP x k := by
  unfold sqP reP imP
  have e : ∀ j, j < 4 → nthI (shL (scL x g) b) (k + b + j) = nthI x (k + j) * g := by
    intro j hj
    rw [shL_at (by omega), if_pos (by omega), show (((k + b + j : Nat) : Int) - (b : Int)).toNat = k + j by omega, scL_at (by omega)]
  have e0 := e 0 (by omega)
  rw [Nat.add_zero, Nat.add_zero] at e0
  rw [e0, e 1 (by omega), e 2 (by omega), e 3 (by omega), ← Int.sub_mul, ← Int.sub_mul]
  have q : ∀ a : Int, a * g * (a * g) = g * g * (a * a) := fun a => by ac_rfl
  rw [q, q, ← Int.mul_add]
theorem sqL_at {x : List Int} {k : Nat} (h : k < 61) : nthI (sqL x) k = sqP x k := by
  rw [nthI_eq (by rw [sqL_length]; exact h)]; simp [sqL]
/-- Ahead of it is silence. -/
theorem sq_early {l : List Int} {g : Int} {b j : Nat} (h : j < b) (hb : b ≤ 20) : sqP (shL (scL (ecP l) g) b) j = 0 := by
  have e : ∀ i, i < 4 → nthI (shL (scL (ecP l) g) b) (j + i) = 0 := by
    intro i hi
    rw [shL_at (by omega)]
    split
    · rw [scL_at (by omega), ecP_near (by omega)]; simp
    · rfl
  unfold sqP reP imP
  have e0 := e 0 (by omega)
  rw [Nat.add_zero] at e0
  rw [e0, e 1 (by omega), e 2 (by omega), e 3 (by omega)]
  rfl
theorem sqP_nn (x : List Int) (k : Nat) : 0 ≤ sqP x k := by
  unfold sqP; have := sq_nn (reP x k); have := sq_nn (imP x k); omega
def pkTo (x : List Int) : Nat → Int × Int
  | 0 => (0, sqP x 0)
  | k + 1 => if (pkTo x k).2 < sqP x (k + 1) then (((k + 1 : Nat) : Int), sqP x (k + 1)) else pkTo x k
theorem pkFrom_to (x : List Int) : ∀ (n k : Nat), peakFrom x (k + 1) n (pkTo x k) = pkTo x (k + n)
  | 0, k => rfl
  | n + 1, k => by
    have := pkFrom_to x n (k + 1)
    rw [show k + (n + 1) = k + 1 + n by omega, ← this]
    rfl
theorem peakOf_to (x : List Int) (n : Nat) : peakOf x 0 n = pkTo x n := by
  have := pkFrom_to x n 0
  rw [show (0 + n) = n by omega] at this
  rw [← this]
  rfl
theorem pkTo_ge {x : List Int} : ∀ {n i : Nat}, i ≤ n → sqP x i ≤ (pkTo x n).2
  | 0, i, h => by obtain rfl : i = 0 := (by omega); exact Int.le_refl _
  | n + 1, i, h => by
    simp only [pkTo]
    by_cases e : i = n + 1
    · subst e; split
      · exact Int.le_refl _
      · omega
    · have := pkTo_ge (x := x) (n := n) (i := i) (by omega)
      split
      · show sqP x i ≤ sqP x (n + 1); omega
      · exact this
theorem pkTo_bd (x : List Int) : ∀ n : Nat, 0 ≤ (pkTo x n).1 ∧ (pkTo x n).1 ≤ (n : Int) ∧ ∃ i, i ≤ n ∧ (pkTo x n).2 = sqP x i
  | 0 => ⟨by simp [pkTo], by simp [pkTo], 0, by omega, rfl⟩
  | n + 1 => by
    obtain ⟨h1, h2, i, h3, h4⟩ := pkTo_bd x n
    simp only [pkTo]
    split
    · exact ⟨by show (0 : Int) ≤ ((n + 1 : Nat) : Int); omega, by show ((n + 1 : Nat) : Int) ≤ _; omega, n + 1, by omega, rfl⟩
    · exact ⟨h1, by omega, i, by omega, h4⟩
section
variable {l : List Int} {g : Int} {b n : Nat} (hg : 1 ≤ g) (hb : b ≤ 20)
include hb
theorem pk_early : ∀ {j : Nat}, j < b → pkTo (shL (scL (ecP l) g) b) j = (0, 0)
  | 0, h => by simp only [pkTo]; rw [sq_early h hb]
  | j + 1, h => by
    simp only [pkTo]
    rw [pk_early (j := j) (by omega), sq_early h hb, if_neg (by simp)]
include hg
/-- The peaks of both. -/
def pkRel (g : Int) (b : Nat) (p q : Int × Int) : Prop := (p.2 = 0 ∧ p.1 = 0 ∧ q = (0, 0)) ∨ (0 < p.2 ∧ q = (p.1 + (b : Int), g * g * p.2))
theorem pk_late : ∀ {k : Nat}, k + b < 61 → pkRel g b (pkTo (ecP l) k) (pkTo (shL (scL (ecP l) g) b) (k + b))
  | 0, h => by
    have hs := sq_late (x := ecP l) (g := g) (b := b) (k := 0) (by omega)
    have nn := sqP_nn (ecP l) 0
    have gg := sq_pos (a := g) (by omega)
    rw [Nat.zero_add] at hs ⊢
    have hq : pkTo (shL (scL (ecP l) g) b) b = if 0 < sqP (ecP l) 0 then ((b : Int), g * g * sqP (ecP l) 0) else (0, 0) := by
      by_cases e : b = 0
      · subst e
        simp only [pkTo]
        rw [hs]
        by_cases z : 0 < sqP (ecP l) 0
        · rw [if_pos z]; rfl
        · rw [if_neg z, show sqP (ecP l) 0 = 0 by omega]; simp
      · obtain ⟨c, rfl⟩ : ∃ c, b = c + 1 := ⟨b - 1, by omega⟩
        simp only [pkTo]
        rw [pk_early hb (by omega), hs]
        by_cases z : 0 < sqP (ecP l) 0
        · rw [if_pos z, if_pos (Int.mul_pos gg z)]
        · rw [if_neg z, show sqP (ecP l) 0 = 0 by omega]; simp
    rw [hq]
    by_cases z : 0 < sqP (ecP l) 0
    · rw [if_pos z]; exact .inr ⟨z, by simp [pkTo]⟩
    · rw [if_neg z]; exact .inl ⟨by simp only [pkTo]; omega, rfl, rfl⟩
  | k + 1, h => by
    have ih := pk_late (k := k) (by omega)
    have hs := sq_late (x := ecP l) (g := g) (b := b) (k := k + 1) h
    have nn := sqP_nn (ecP l) (k + 1)
    have gg := sq_pos (a := g) (by omega)
    rw [show k + 1 + b = k + b + 1 by omega] at hs ⊢
    have ep : pkTo (ecP l) (k + 1) = if (pkTo (ecP l) k).2 < sqP (ecP l) (k + 1) then (((k + 1 : Nat) : Int), sqP (ecP l) (k + 1)) else pkTo (ecP l) k := rfl
    have eq : pkTo (shL (scL (ecP l) g) b) (k + b + 1) = if (pkTo (shL (scL (ecP l) g) b) (k + b)).2 < g * g * sqP (ecP l) (k + 1) then (((k + b + 1 : Nat) : Int), g * g * sqP (ecP l) (k + 1)) else pkTo (shL (scL (ecP l) g) b) (k + b) := by
      simp only [pkTo]; rw [hs]
    rw [ep, eq]
    rcases ih with ⟨i1, i2, i3⟩ | ⟨i1, i2⟩
    · rw [i3, i1]
      by_cases z : 0 < sqP (ecP l) (k + 1)
      · rw [if_pos z, if_pos (Int.mul_pos gg z)]
        exact .inr ⟨z, by simp only [Prod.mk.injEq, and_true]; omega⟩
      · rw [if_neg z, show sqP (ecP l) (k + 1) = 0 by omega, if_neg (by simp)]
        exact .inl ⟨i1, i2, rfl⟩
    · rw [i2]
      by_cases z : (pkTo (ecP l) k).2 < sqP (ecP l) (k + 1)
      · rw [if_pos z, if_pos (Int.mul_lt_mul_of_pos_left z gg)]
        exact .inr ⟨by show 0 < sqP (ecP l) (k + 1); omega, by simp only [Prod.mk.injEq, and_true]; omega⟩
      · rw [if_neg z, if_neg (by have := Int.mul_le_mul_of_nonneg_left (show sqP (ecP l) (k + 1) ≤ (pkTo (ecP l) k).2 by omega) (Int.le_of_lt gg); omega)]
        exact .inr ⟨i1, rfl⟩
end
section
variable {l : List Int} {g : Int} {b n : Nat} (hn : l.length = n) (h20 : n ≤ 20)
include hn h20
theorem sq_far {k : Nat} (h : 23 ≤ k) : sqP (ecP l) k = 0 := by
  unfold sqP reP imP
  rw [ecP_far hn h20 h, ecP_far hn h20 (by omega), ecP_far hn h20 (by omega), ecP_far hn h20 (by omega)]; rfl
theorem pk_far : ∀ {k : Nat}, 30 ≤ k → pkTo (ecP l) k = pkTo (ecP l) 30
  | 0, h => by omega
  | k + 1, h => by
    by_cases e : k + 1 = 30
    · rw [e]
    · rw [← pk_far (k := k) (by omega)]
      simp only [pkTo]
      rw [sq_far hn h20 (by omega), if_neg]
      have := pkTo_ge (x := ecP l) (n := k) (i := 0) (by omega)
      have := sqP_nn (ecP l) 0
      omega
theorem pk_pos (h : nz l n = true) : 0 < (pkTo (ecP l) 30).2 := by
  obtain ⟨i, h1, h2⟩ := (nz_iff _ _).1 h
  -- the last sample that is not zero
  have : ∀ d : Nat, ∀ i, i + d = 64 → nthI (ecP l) i ≠ 0 → ∃ m, nthI (ecP l) m ≠ 0 ∧ m ≤ 22 ∧ nthI (ecP l) (m + 2) = 0 := by
    intro d
    induction d using Nat.strongRecOn with
    | ind d ih =>
      intro i hi hz
      by_cases q : nthI (ecP l) (i + 2) = 0
      · refine ⟨i, hz, ?_, q⟩
        by_cases z : i ≤ 22
        · exact z
        · exact absurd (ecP_far hn h20 (by omega)) hz
      · have : i + 2 < 23 := by
          by_cases z : i + 2 < 23
          · exact z
          · exact absurd (ecP_far hn h20 (by omega)) q
        exact ih (d - 2) (by omega) (i + 2) (by omega) q
  obtain ⟨m, m1, m2, m3⟩ := this (64 - (i + 3)) (i + 3) (by omega) (by rw [ecP_at (by omega), ecX_at, if_neg (by omega), show i + 3 - 3 = i by omega]; exact h2)
  have s : 0 < sqP (ecP l) m := by
    unfold sqP reP
    rw [m3]
    have := sq_pos (a := nthI (ecP l) m - 0) (by omega)
    have := sq_nn (imP (ecP l) m)
    omega
  have := pkTo_ge (x := ecP l) (n := 30) (i := m) (by omega)
  omega
/-- The peaks. -/
theorem ec_peak (hg : 1 ≤ g) (hb : b ≤ 20) (h : nz l n = true) : peakOf (shL (scL (ecP l) g) b) 0 60 = ((peakOf (ecP l) 0 30).1 + (b : Int), g * g * (peakOf (ecP l) 0 30).2) := by
  rw [peakOf_to, peakOf_to]
  have r := pk_late (l := l) hg hb (k := 60 - b) (by omega)
  rw [show 60 - b + b = 60 by omega, pk_far hn h20 (by omega)] at r
  have p := pk_pos hn h20 h
  rcases r with ⟨r, _⟩ | ⟨_, r⟩
  · omega
  · exact r
end
/-- Sums of products, for lags beyond. -/
def lhi (f : Nat → Int) (h : Nat) : Nat → Int
  | 0 => 0
  | t + 1 => lhi f h t + f (t + h) * f t
theorem lcr_re (f : Nat → Int) (h : Nat) : ∀ n, lcr f h (n + h) = lcr f h h + lhi f h n
  | 0 => by simp [lhi]
  | n + 1 => by
    have ih := lcr_re f h n
    rw [show n + 1 + h = (n + h) + 1 by omega]
    simp only [lcr]
    rw [ih, show lg f h (n + h) = f n by unfold lg; rw [if_pos (by omega), show n + h - h = n by omega]]
    simp only [lhi]
    omega
theorem lcr_low (f : Nat → Int) (h : Nat) : ∀ {n : Nat}, n ≤ h → lcr f h n = 0
  | 0, _ => rfl
  | n + 1, hn => by simp only [lcr]; rw [lcr_low f h (by omega), show lg f h n = 0 from if_neg (by omega)]; simp
theorem lcr_high {f : Nat → Int} {h m : Nat} (hf : ∀ i, m ≤ i → f i = 0) : ∀ d, lcr f h (m + d) = lcr f h m
  | 0 => rfl
  | d + 1 => by rw [show m + (d + 1) = (m + d) + 1 by omega]; simp only [lcr]; rw [lcr_high hf d, hf _ (by omega)]; simp
section
variable {x : List Int} {g : Int} {b : Nat} (hb : b ≤ 20) (hx : ∀ i, 23 ≤ i → nthI x i = 0)
include hb hx
theorem corr_low {lag : Int} (h2 : lag ≤ b) : ∀ {n : Nat}, n ≤ 64 → corrTo x (shL (scL x g) b) lag n = lcr (nthI x) ((b : Int) - lag).toNat n * g
  | 0, _ => by simp [corrTo, lcr]
  | n + 1, h => by
    have ih := corr_low h2 (n := n) (by omega)
    simp only [corrTo, lcr]
    rw [ih, Int.add_mul]
    congr 1
    by_cases z : nthI x n = 0
    · rw [z]; split <;> simp
    · have : n < 23 := by
        by_cases q : n < 23
        · exact q
        · exact absurd (hx n (by omega)) z
      by_cases q : 0 ≤ (n : Int) + lag
      · rw [if_pos (inB_true.2 (by omega)), shL_at (by omega), Int.mul_assoc]
        congr 1
        unfold lg
        by_cases y : ((b : Int) - lag).toNat ≤ n
        · rw [if_pos y, if_pos (by omega), scL_at (by omega)]; congr 2; omega
        · rw [if_neg y, if_neg (by omega)]; simp
      · rw [if_neg (fun w => q (inB_true.1 w).1)]
        unfold lg
        rw [if_neg (by omega)]; simp
theorem corr_hi {lag : Int} (h2 : (b : Int) < lag) (h3 : lag ≤ 25) : ∀ {n : Nat}, n ≤ 64 → corrTo x (shL (scL x g) b) lag n = lhi (nthI x) (lag - b).toNat n * g
  | 0, _ => by simp [corrTo, lhi]
  | n + 1, h => by
    have ih := corr_hi h2 h3 (n := n) (by omega)
    simp only [corrTo]
    rw [ih]
    simp only [lhi]
    rw [Int.add_mul]
    congr 1
    by_cases q : (n : Int) + lag ≤ 63
    · rw [if_pos (inB_true.2 (by omega)), shL_at (by omega), if_pos (by omega), scL_at (by omega), show (((n : Int) + lag).toNat : Int) - (b : Int) = ((n + (lag - b).toNat : Nat) : Int) by omega]
      rw [show (((n + (lag - b).toNat : Nat) : Int)).toNat = n + (lag - b).toNat by omega]
      ac_rfl
    · rw [if_neg (fun w => q (inB_true.1 w).2), hx (n + (lag - b).toNat) (by omega)]; simp
theorem corr_echo {lag : Int} (h3 : lag ≤ 25) : corr x (shL (scL x g) b) lag = lcr (nthI x) ((b : Int) - lag).natAbs 64 * g := by
  unfold corr
  by_cases q : lag ≤ b
  · rw [corr_low hb hx q (by omega), show ((b : Int) - lag).natAbs = ((b : Int) - lag).toNat by omega]
  · rw [corr_hi hb hx (by omega) h3 (by omega), show ((b : Int) - lag).natAbs = (lag - b).toNat by omega]
    congr 1
    have e := lcr_re (nthI x) (lag - b).toNat 64
    rw [lcr_low _ _ (Nat.le_refl _), lcr_high (m := 64) (fun i hi => hx i (by omega))] at e
    omega
theorem ec_lag (hg : 1 ≤ g) (h0 : ∃ i, i < 64 ∧ nthI x i ≠ 0) : lagOf x (shL (scL x g) b) 25 = b := by
  have c : ∀ lag : Int, lag ≤ 25 → lag ≠ b → corr x (shL (scL x g) b) lag < corr x (shL (scL x g) b) b := by
    intro lag h1 h2
    rw [corr_echo hb hx h1, corr_echo hb hx (by omega), show ((b : Int) - (b : Int)).natAbs = 0 by omega]
    exact Int.mul_lt_mul_of_pos_right (lcr_less (by omega) h0) (by omega)
  have st : ∀ (best : Int × Int) (lag : Int), best.2 < corr x (shL (scL x g) b) b → lag ≤ 25 → lag ≠ b → (lagStep x (shL (scL x g) b) best lag).2 < corr x (shL (scL x g) b) b := by
    intro best lag h1 h2 h3
    by_cases q : corr x (shL (scL x g) b) lag > best.2
    · rw [lagStep_y q]; exact c lag h2 h3
    · rw [lagStep_n q]; exact h1
  have sk : ∀ (lag : Int), lag ≤ 25 → lag ≠ b → lagStep x (shL (scL x g) b) ((b : Int), corr x (shL (scL x g) b) b) lag = ((b : Int), corr x (shL (scL x g) b) b) := by
    intro lag h2 h3
    have := c lag h2 h3
    exact lagStep_n (by show ¬ corr x (shL (scL x g) b) lag > corr x (shL (scL x g) b) b; omega)
  have t : ∀ k, k < b → (lagTo x (shL (scL x g) b) k).2 < corr x (shL (scL x g) b) b := by
    intro k
    induction k with
    | zero => intro hk; exact c 0 (by omega) (by omega)
    | succ k ih =>
      intro hk
      simp only [lagTo]
      exact st _ _ (st _ _ (ih (by omega)) (by omega) (by omega)) (by omega) (by omega)
  have e : ∀ k, k + b ≤ 25 → lagTo x (shL (scL x g) b) (k + b) = ((b : Int), corr x (shL (scL x g) b) b) := by
    intro k
    induction k with
    | zero =>
      intro _
      rw [Nat.zero_add]
      by_cases z : b = 0
      · subst z; rfl
      · obtain ⟨k, hk⟩ : ∃ k, b = k + 1 := ⟨b - 1, by omega⟩
        have q := st _ (-((k : Int) + 1)) (t k (by omega)) (by omega) (by omega)
        have ek : (b : Int) = (k : Int) + 1 := by omega
        have e2 : lagTo x (shL (scL x g) b) b = lagTo x (shL (scL x g) b) (k + 1) := by rw [hk]
        have q' : corr x (shL (scL x g) b) ((k : Int) + 1) > (lagStep x (shL (scL x g) b) (lagTo x (shL (scL x g) b) k) (-((k : Int) + 1))).2 := by
          have ec : corr x (shL (scL x g) b) ((k : Int) + 1) = corr x (shL (scL x g) b) b := by rw [ek]
          rw [ec]; exact q
        rw [e2, ← lagTo_s rfl (lagStep_y q')]
        exact congrArg (fun z : Int => (z, corr x (shL (scL x g) b) z)) ek.symm
    | succ k ih =>
      intro hk
      rw [show k + 1 + b = (k + b) + 1 by omega]
      exact (lagTo_s (by rw [ih (by omega)]; exact sk _ (by omega) (by omega)) (sk _ (by omega) (by omega))).symm
  rw [lagOf_to]
  have := e (25 - b) (by omega)
  rw [show 25 - b + b = 25 by omega] at this
  rw [this]
end
end Go.Proofs.Ytfooefkgdcjlhaa
