import Derived.Test.YtnbimpkihpaldaaKit
import Derived.Test.YtnbimpkihpaldaaArith
/-! Lists of ints as cells; numbers within bounds; the first error. -/
namespace Go.Proofs.Ytnbimpkihpaldaa
open Go.RowKit Go.Cpl
def inB (n lo hi : Int) : Bool := decide (lo ≤ n) && decide (n ≤ hi)
theorem inB_true {n lo hi : Int} : inB n lo hi = true ↔ lo ≤ n ∧ n ≤ hi := by simp [inB]
theorem inB_false {n lo hi : Int} : inB n lo hi = false ↔ ¬ (lo ≤ n ∧ n ≤ hi) := by simp [inB]
/-- The cells of an array of ints. -/
def ints (l : List Int) : Array Value := (l.map (Value.int .i64)).toArray
theorem ints_size (l : List Int) : (ints l).size = l.length := by simp [ints]
theorem ints_set (l : List Int) (k : Nat) (v : Int) : (ints l).setIfInBounds k (.int .i64 v) = ints (l.set k v) := by
  simp [ints]

/-- An int of a list (kept shut to the walk). -/
def nthI (l : List Int) (k : Nat) : Int := l.getD k 0
theorem nthI_eq {l : List Int} {k : Nat} (h : k < l.length) : nthI l k = l[k] := by
  simp [nthI, List.getD_eq_getElem?_getD, List.getElem?_eq_getElem h]
theorem ints_get {l : List Int} {k : Nat} (h : k < l.length) : (ints l)[k]? = some (.int .i64 (nthI l k)) := by
  simp [ints, nthI_eq h, h]
theorem blk_int {w : World} {g : Nat} {t : TypeId} {l : List Int} (h : Blk w g t (ints l)) {k : Nat} (hk : k < l.length) : w.cell? ⟨g, k, none⟩ = some (.int .i64 (nthI l k)) := by
  rw [h.cell, ints_get hk]

theorem ints_one (l : List Int) : (ints l).all (·.oneCell') = true := by
  rw [Array.all_eq_true_iff_forall_mem]
  intro v hv
  simp only [ints, List.mem_toArray, List.mem_map] at hv
  obtain ⟨n, _, rfl⟩ := hv
  rfl

/-- The first k done, the others still as they began. -/
def done {α : Type} (z : α) (f : Nat → α) (n k : Nat) : List α := (List.range n).map fun i => if i < k then f i else z
theorem done_length {α : Type} (z : α) (f : Nat → α) (n k : Nat) : (done z f n k).length = n := by simp [done]
theorem done_set {α : Type} (z : α) (f : Nat → α) (n k : Nat) : (done z f n k).set k (f k) = done z f n (k + 1) := by
  apply List.ext_getElem
  · simp [done]
  · intro i h1 h2
    simp only [done, List.length_map, List.length_range] at h2
    simp only [done, List.getElem_set, List.getElem_map, List.getElem_range]
    by_cases h : k = i
    · subst h; simp
    · rw [if_neg h]
      by_cases h3 : i < k
      · rw [if_pos h3, if_pos (by omega)]
      · rw [if_neg h3, if_neg (by omega)]
theorem done_all {α : Type} (z : α) (f : Nat → α) (n : Nat) : done z f n n = (List.range n).map f := by
  unfold done
  apply List.map_congr_left
  intro i hi
  rw [if_pos (by simpa using hi)]
theorem done_zero {α : Type} (z : α) (f : Nat → α) (n : Nat) : done z f n 0 = List.replicate n z := by
  apply List.ext_getElem
  · simp [done]
  · intro i h1 h2
    simp [done]

/-- The first error of some. -/
def firstOf : List Int → Int
  | [] => 0
  | e :: l => if e = 0 then firstOf l else e

theorem firstOf_step (l : List Int) (k : Nat) (h : k < l.length) : firstOf (l.drop k) = if nthI l k = 0 then firstOf (l.drop (k + 1)) else nthI l k := by
  rw [List.drop_eq_getElem_cons h]
  simp only [firstOf, nthI_eq h]

/-- A pair of a list (kept shut to the walk). -/
def nthP (l : List (Int × Int)) (k : Nat) : Int × Int := l.getD k (0, 0)
theorem nthP_eq {l : List (Int × Int)} {k : Nat} (h : k < l.length) : nthP l k = l[k] := by
  simp [nthP, List.getD_eq_getElem?_getD, List.getElem?_eq_getElem h]
theorem add_zero_off (g k : Nat) : (⟨g, 0, none⟩ : Addr).add k = ⟨g, k, none⟩ := by unfold Addr.add; split <;> simp_all

end Go.Proofs.Ytnbimpkihpaldaa
