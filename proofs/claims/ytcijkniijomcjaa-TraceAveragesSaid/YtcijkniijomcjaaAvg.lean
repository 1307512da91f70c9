import Derived.Test.YtcijkniijomcjaaVr
/-! Slices of matrices, and their means. -/
namespace Go.Proofs.Ytcijkniijomcjaa
open Go.RowKit Go.Cpl
/-- A matrix in a slice of matrices: its elements, its slice of samples, their words. -/
structure Mt where
  el : Int
  B : Option Addr
  n : Nat
  c : Nat
  xs : List Nat
def mtC (m : Mt) : List Value := [.int .i64 m.el, .slice m.B m.n m.c]
def mtX (ms : List Mt) : List Value := ms.flatMap mtC
def mtK (ms : List Mt) (k : Nat) : Mt := ms.getD k ⟨0, none, 0, 0, []⟩
/-- What can be read of a matrix. -/
structure MtOk (w : World) (m : Mt) : Prop where
  len : m.xs.length = m.n
  cap : m.n ≤ m.c
  rd : FReads w m.B m.xs
  few : m.n ≤ 1000
  lo : -9223372036854775808 ≤ m.el
  hi : m.el ≤ 9223372036854775807
theorem MtOk.kept {w w' : World} {m : Mt} (h : MtOk w m) (k : Kp w w') : MtOk w' m := ⟨h.len, h.cap, h.rd.kept k, h.few, h.lo, h.hi⟩
def MtReads (w : World) (A : Option Addr) (ms : List Mt) : Prop := VReads w A (mtX ms) ∧ ∀ k, k < ms.length → MtOk w (mtK ms k)
theorem MtReads.kept {w w' : World} {A : Option Addr} {ms : List Mt} (h : MtReads w A ms) (k : Kp w w') : MtReads w' A ms := ⟨h.1.kept k, fun i hi => (h.2 i hi).kept k⟩
theorem mtX_length (ms : List Mt) : (mtX ms).length = ms.length * 2 := by
  induction ms with
  | nil => rfl
  | cons m ms ih => simp only [mtX, List.flatMap_cons, List.length_append, List.length_cons] at ih ⊢; rw [ih]; simp [mtC]; omega
theorem mtX_get {ms : List Mt} {k : Nat} (hk : k < ms.length) : ∀ j x, (mtC (mtK ms k))[j]? = some x → (mtX ms)[k * 2 + j]? = some x := by
  induction ms generalizing k with
  | nil => exact absurd hk (Nat.not_lt_zero _)
  | cons m ms ih =>
    intro j x hx
    have hj : j < 2 := by have := (List.getElem?_eq_some_iff.1 hx).1; simpa [mtC] using this
    have e : mtX (m :: ms) = mtC m ++ mtX ms := rfl
    rw [e]
    cases k with
    | zero =>
      rw [List.getElem?_append_left (by simp [mtC]; omega), Nat.zero_mul, Nat.zero_add]
      exact hx
    | succ k =>
      rw [List.getElem?_append_right (by simp [mtC]; omega), show (k + 1) * 2 + j - (mtC m).length = k * 2 + j by simp [mtC]; omega]
      exact ih (by rw [List.length_cons] at hk; omega) j x hx
/-- A matrix of a slice of matrices, in the cells that hold it. -/
theorem mt_at {w : World} {A : Option Addr} {ms : List Mt} {k : Nat} (h : MtReads w A ms) (hk : k < ms.length) : ∃ ad, A = some ad ∧ ∀ j x, (mtC (mtK ms k))[j]? = some x → w.cell? ((ad.add (k * 2)).add j) = some x := by
  obtain ⟨ad, rfl, _⟩ := h.1 (k * 2 + 0) (.int .i64 (mtK ms k).el) (mtX_get hk 0 _ rfl)
  refine ⟨ad, rfl, fun j x hx => ?_⟩
  obtain ⟨ad', e, hc⟩ := h.1 (k * 2 + j) x (mtX_get hk j x hx)
  cases e
  rw [Addr.add_add]; exact hc
theorem mt_cell {w : World} {ad : Addr} {ms : List Mt} {k j o : Nat} {x : Value} (h : ∀ j x, (mtC (mtK ms k))[j]? = some x → w.cell? ((ad.add (k * 2)).add j) = some x) (ho : o = k * 2 + j) (hx : (mtC (mtK ms k))[j]? = some x) : w.cell? (ad.add o) = some x := by
  subst ho
  rw [← Addr.add_add]; exact h j x hx
/-- The error of a mean, its elements and its samples. -/
def avF (e0 : Int) : List Mt → Int
  | [] => 0
  | m :: ms => if (mxC m.el m.xs).2 = 0 then (if m.el = e0 then avF e0 ms else 13) else (mxC m.el m.xs).2
def avZ (ms : List Mt) : Int := if ms.length = 0 then 10 else if 32 < ms.length then 8 else avF (mtK ms 0).el ms
def avGood (ms : List Mt) (k : Nat) : Prop := ∀ j, j < k → (mxC (mtK ms j).el (mtK ms j).xs).2 = 0 ∧ (mtK ms j).el = (mtK ms 0).el
theorem mtK_zero (m : Mt) (ms : List Mt) : mtK (m :: ms) 0 = m := rfl
theorem mtK_succ (m : Mt) (ms : List Mt) (k : Nat) : mtK (m :: ms) (k + 1) = mtK ms k := rfl
theorem avF_skip {e0 : Int} : ∀ {ms : List Mt} {k : Nat}, k ≤ ms.length → (∀ j, j < k → (mxC (mtK ms j).el (mtK ms j).xs).2 = 0 ∧ (mtK ms j).el = e0) → avF e0 ms = avF e0 (ms.drop k) := by
  intro ms
  induction ms with
  | nil =>
    intro k hk _
    obtain rfl : k = 0 := by simpa using hk
    rfl
  | cons m ms ih =>
    intro k hk h
    cases k with
    | zero => rfl
    | succ k =>
      have h0 := h 0 (by omega)
      rw [mtK_zero] at h0
      rw [List.drop_succ_cons, ← ih (by rw [List.length_cons] at hk; omega) (fun j hj => h (j + 1) (by omega))]
      show (if (mxC m.el m.xs).2 = 0 then (if m.el = e0 then avF e0 ms else 13) else (mxC m.el m.xs).2) = _
      rw [if_pos h0.1, if_pos h0.2]
theorem drop_mtK {ms : List Mt} {k : Nat} (hk : k < ms.length) : ms.drop k = mtK ms k :: ms.drop (k + 1) := by
  rw [List.drop_eq_getElem_cons hk]
  congr 1
  simp [mtK, List.getD_eq_getElem?_getD, List.getElem?_eq_getElem hk]
theorem avZ_0 {ms : List Mt} (h : ms.length = 0) : avZ ms = 10 := if_pos h
theorem avZ_1 {ms : List Mt} (h : 32 < ms.length) : avZ ms = 8 := by unfold avZ; rw [if_neg (by omega), if_pos h]
theorem avZ_at {ms : List Mt} {k : Nat} (h1 : 0 < ms.length) (h2 : ms.length ≤ 32) (hk : k ≤ ms.length) (hg : avGood ms k) : avZ ms = avF (mtK ms 0).el (ms.drop k) := by
  unfold avZ
  rw [if_neg (by omega), if_neg (by omega)]
  exact avF_skip hk hg
theorem avZ_e {ms : List Mt} {k : Nat} (h2 : ms.length ≤ 32) (hk : k < ms.length) (hg : avGood ms k) (h : ¬ (mxC (mtK ms k).el (mtK ms k).xs).2 = 0) : avZ ms = (mxC (mtK ms k).el (mtK ms k).xs).2 := by
  rw [avZ_at (by omega) h2 (by omega) hg, drop_mtK hk]; exact if_neg h
theorem avZ_c {ms : List Mt} {k : Nat} (h2 : ms.length ≤ 32) (hk : k < ms.length) (hg : avGood ms k) (h : (mxC (mtK ms k).el (mtK ms k).xs).2 = 0) (hc : ¬ (mtK ms k).el = (mtK ms 0).el) : avZ ms = 13 := by
  rw [avZ_at (by omega) h2 (by omega) hg, drop_mtK hk]; exact (if_pos h).trans (if_neg hc)
theorem avZ_g {ms : List Mt} (h1 : 0 < ms.length) (h2 : ms.length ≤ 32) (hg : avGood ms ms.length) : avZ ms = 0 := by
  rw [avZ_at h1 h2 (Nat.le_refl _) hg, List.drop_length]; rfl
theorem good_zero (ms : List Mt) : avGood ms 0 := fun j hj => absurd hj (Nat.not_lt_zero j)
theorem good_snoc {ms : List Mt} {k : Nat} (hg : avGood ms k) (h : (mxC (mtK ms k).el (mtK ms k).xs).2 = 0) (hc : (mtK ms k).el = (mtK ms 0).el) : avGood ms (k + 1) := by
  intro j hj
  rcases Nat.lt_or_ge j k with q | q
  · exact hg j q
  · obtain rfl : j = k := by omega
    exact ⟨h, hc⟩
/-- Sums of the samples at a place, and the means. -/
def sumK (ms : List Mt) (p : Nat) : Nat → Int
  | 0 => 0
  | k + 1 => sumK ms p k + nthI (mi (mtK ms k).xs) p
def rndI (s : Int) (n : Nat) : Int := (2 * s + (n : Int)) / (2 * (n : Int))
def avL (ms : List Mt) (n : Nat) : List Int := (List.range n).map fun p => rndI (sumK ms p ms.length) ms.length
def avE (ms : List Mt) : Int := if avZ ms = 0 then (mtK ms 0).el else 0
def avW (ms : List Mt) : List Nat := if avZ ms = 0 then fw (avL ms (mtK ms 0).xs.length) else []
theorem av_ok {ms : List Mt} (h : avZ ms = 0) : avE ms = (mtK ms 0).el ∧ avW ms = fw (avL ms (mtK ms 0).xs.length) := ⟨if_pos h, if_pos h⟩
theorem av_err {ms : List Mt} {z : Int} (h : avZ ms = z) (hz : ¬ z = 0) : avE ms = 0 ∧ avW ms = [] := by subst h; exact ⟨if_neg hz, if_neg hz⟩
theorem good_right {ms : List Mt} {k j : Nat} (hg : avGood ms k) (hj : j < k) : Right (mtK ms j).xs := right_of (mxC_0 (hg j hj).1).2.2
theorem good_len {ms : List Mt} {k j : Nat} (hg : avGood ms k) (hj : j < k) : (mtK ms j).xs.length = (mtK ms 0).xs.length := by
  have h1 := (mxC_0 (hg j hj).1).2.1
  have h2 := (mxC_0 (hg 0 (by omega)).1).2.1
  rw [(hg j hj).2] at h1
  omega
theorem sumK_bd {ms : List Mt} {k : Nat} (hg : avGood ms k) (p : Nat) : -2047 * (k : Int) ≤ sumK ms p k ∧ sumK ms p k ≤ 2047 * (k : Int) := by
  induction k with
  | zero => exact ⟨by simp [sumK], by simp [sumK]⟩
  | succ k ih =>
    have h := ih (fun j hj => hg j (by omega))
    have r := mi_range (good_right hg (j := k) (by omega)) p
    unfold sumK
    omega
theorem avL_snoc (ms : List Mt) (k : Nat) : rowF (fw (avL ms k)) ++ [.float .f32 (floatOfInt .f32 (rndI (sumK ms k ms.length) ms.length))] = rowF (fw (avL ms (k + 1))) := by simp [avL, List.range_succ, fw, rowF]
theorem avL_length (ms : List Mt) (n : Nat) : (avL ms n).length = n := by simp [avL]
end Go.Proofs.Ytcijkniijomcjaa
