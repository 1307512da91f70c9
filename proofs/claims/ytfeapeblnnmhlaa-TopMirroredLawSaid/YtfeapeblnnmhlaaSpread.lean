import Derived.Test.YtfeapeblnnmhlaaRay
/-! Chapter 2, plain: spreads of arrivals. -/
namespace Go.Ray1
/-- x is how far the arrivals of those that send lie apart. -/
def IsSp (n : Nat) (A B : Nat → Int) (s : Nat → Prop) (x : Int) : Prop :=
  (∀ i, i < n → s i → ∀ j, j < n → s j → B i - A j ≤ x) ∧ ∃ i, i < n ∧ s i ∧ ∃ j, j < n ∧ s j ∧ x = B i - A j
/-- A coarser clock costs its step. -/
theorem spread_recast {n : Nat} {A B A' B' : Nat → Int} {s : Nat → Prop} {c x y : Int} (h : ∀ i, i < n → s i → ∃ d, A' i = A i + d ∧ B' i = B i + d ∧ -c ≤ 2 * d ∧ 2 * d ≤ c)
    (hx : IsSp n A B s x) (hy : IsSp n A' B' s y) : y ≤ x + c ∧ x ≤ y + c := by
  obtain ⟨x1, i, hi, si, j, hj, sj, ex⟩ := hx
  obtain ⟨y1, k, hk, sk, m, hm, sm, ey⟩ := hy
  constructor
  · obtain ⟨d, a1, a2, a3, a4⟩ := h k hk sk
    obtain ⟨e, b1, b2, b3, b4⟩ := h m hm sm
    have := x1 k hk sk m hm sm
    omega
  · obtain ⟨d, a1, a2, a3, a4⟩ := h i hi si
    obtain ⟨e, b1, b2, b3, b4⟩ := h j hj sj
    have := y1 i hi si j hj sj
    omega
/-- Mirrored laws meet mirrored foci. -/
theorem spread_mirror {n : Nat} {Lo Hi Lo' Hi' r d : Nat → Int} {s : Nat → Prop} {c last own other x : Int} (h1 : ∀ i, i < n → Lo' i ≤ Hi i ∧ Lo i ≤ Hi' i) (h2 : ∀ i, i < n → Hi i - Lo i ≤ own) (h3 : ∀ i, i < n → Hi' i - Lo' i ≤ other) (h0 : 0 ≤ own)
    (h4 : ∀ i, i < n → r i = (Lo i + Hi i) / 2) (h5 : ∀ i, i < n → -c ≤ 2 * (d i - (last - r i)) ∧ 2 * (d i - (last - r i)) ≤ c) (hx : IsSp n (fun i => Lo' i + d i) (fun i => Hi' i + d i) s x) : x ≤ c + 2 * (own + other) := by
  obtain ⟨_, i, hi, _, j, hj, _, ex⟩ := hx
  have a1 := h1 i hi; have a2 := h2 i hi; have a3 := h3 i hi; have a4 := h4 i hi; have a5 := h5 i hi
  have b1 := h1 j hj; have b2 := h2 j hj; have b3 := h3 j hj; have b4 := h4 j hj; have b5 := h5 j hj
  simp only at ex
  omega
/-- Rounded to the nearest number, halves up. -/
def rnd (n by_ : Int) : Int := (2 * n + by_) / (2 * by_)
theorem rnd_near {n c : Int} (hc : 1 ≤ c) : -c ≤ 2 * (rnd n c * c - n) ∧ 2 * (rnd n c * c - n) ≤ c := by
  unfold rnd
  have h1 := Int.mul_ediv_self_le (x := 2 * n + c) (k := 2 * c) (by omega)
  have h2 := Int.lt_mul_ediv_self_add (x := 2 * n + c) (k := 2 * c) (by omega)
  generalize (2 * n + c) / (2 * c) = q at *
  have e : 2 * c * q = 2 * (q * c) := by rw [Int.mul_assoc, Int.mul_comm c q]
  omega
theorem rnd_nn {n c : Int} (hc : 1 ≤ c) (hn : 0 ≤ n) : 0 ≤ rnd n c := Int.ediv_nonneg (by omega) (by omega)
theorem rnd_le {n c m : Int} (hc : 1 ≤ c) (hm : 0 ≤ m) (h0 : 0 ≤ n) (h : n ≤ m) : rnd n c ≤ m + 1 := by
  have := (rnd_near (n := n) hc).2
  have q := rnd_nn hc h0
  by_cases z : rnd n c ≤ m + 1
  · exact z
  · have a := Int.mul_nonneg (show 0 ≤ rnd n c - (m + 2) by omega) (show 0 ≤ c by omega)
    have e := Int.mul_le_mul_of_nonneg_left hc hm
    rw [Int.sub_mul, Int.add_mul] at a
    omega
end Go.Ray1
