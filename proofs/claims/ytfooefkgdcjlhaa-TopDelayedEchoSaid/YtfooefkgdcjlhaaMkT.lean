import Derived.Test.YtfooefkgdcjlhaaSums
import Derived.Test.YtfooefkgdcjlhaaFadd

/-! Traces of whole numbers: they are right, and their numbers are what they were made of. -/
namespace Go.Proofs.Ytfooefkgdcjlhaa
open Go.RowKit Go.Cpl

theorem mk_done {f : Nat → Nat} {z n k i : Nat} (h : i < n) : nth (done z f n k) i = if i < k then f i else z := by
  rw [nth_eq (by rw [done_length]; exact h)]; simp [done]
theorem mk_firstErr {xs : List Nat} : ∀ {k : Nat}, (∀ x ∈ xs, sErr x = 0) → (firstErr xs k).2 = 0 := by
  induction xs with
  | nil => intro k _; rfl
  | cons y l ih => intro k h; simp only [firstErr, h y (List.mem_cons_self ..), if_true]; exact ih (fun x hx => h x (List.mem_cons_of_mem _ hx))
theorem mkT_length (l : List Int) (n : Nat) : (mkT l n).length = 64 := done_length _ _ _ _
theorem mkT_right {l : List Int} (h : Small l) : (firstErr (mkT l 64) 0).2 = 0 := by
  apply mk_firstErr
  intro x hx
  simp only [mkT, done, List.mem_map, List.mem_range] at hx
  obtain ⟨i, hi, rfl⟩ := hx
  have := h i
  rw [if_pos hi, sErr_of _ (by omega), if_pos this]
theorem mkT_nums {l : List Int} (hl : l.length = 64) (h : Small l) : nums (mkT l 64) = l := by
  apply List.ext_getElem
  · rw [nums_length, hl]
  · intro i h1 h2
    rw [hl] at h2
    simp only [nums, List.getElem_map, List.getElem_range, mkT, mk_done h2, if_pos h2]
    rw [num_of _ (by have := h i; omega), nthI_eq]
theorem rv_nice {P : Program} {ty : TypeId} {cs : Array Value} {k : Nat} {v v' : Int} (h : rowVal P ty cs k = some (.int .i64 v)) (e : v = v') : rowVal P ty cs k = some (.int .i64 v') := by rw [← e]; exact h
theorem nthI_out {l : List Int} {k : Nat} (h : l.length ≤ k) : nthI l k = 0 := by
  simp [nthI, List.getElem?_eq_none h]
theorem shL_at {x : List Int} {b : Int} {k : Nat} (h : k < 64) : nthI (shL x b) k = if 0 ≤ (k : Int) - b ∧ (k : Int) - b ≤ 63 then nthI x ((k : Int) - b).toNat else 0 := by
  rw [nthI_eq (by rw [shL_length]; exact h)]; simp [shL]
theorem shL_small {x : List Int} (h : Small x) (b : Int) : Small (shL x b) := by
  intro k
  by_cases hk : k < 64
  · rw [shL_at hk]; split
    · exact h _
    · omega
  · rw [nthI_out (by rw [shL_length]; omega)]; omega
theorem adL_small {x y : List Int} (h : ¬ grt (adL x y) 64 > 2047) : Small (adL x y) := by
  intro k
  by_cases hk : k < 64
  · have := grt_ge (l := adL x y) hk; omega
  · rw [nthI_out (by rw [adL_length]; omega)]; omega
theorem mk_parts {l : List Int} (h0 : Small l) (k : Nat) : (nthP (partsL l) k).1.natAbs < 8388608 ∧ (nthP (partsL l) k).2.natAbs < 8388608 := by
  by_cases hk : k < 61
  · rw [partsL_at hk]
    have := reP_bound h0 k
    have := imP_bound h0 k
    simp only
    omega
  · simp [nthP, List.getElem?_eq_none (show (partsL l).length ≤ k by rw [partsL_length]; omega)]
theorem parts_add {x y : List Int} {k : Nat} (hk : k < 61) : ((nthP (partsL x) k).1 + (nthP (partsL y) k).1, (nthP (partsL x) k).2 + (nthP (partsL y) k).2) = ((nthP (partsL (adL x y)) k).1, (nthP (partsL (adL x y)) k).2) := by
  rw [partsL_at hk, partsL_at hk, partsL_at hk]
  simp only [reP, imP, Prod.mk.injEq]
  rw [adL_at (by omega), adL_at (by omega), adL_at (by omega), adL_at (by omega)]
  omega
theorem parts_shift {x : List Int} {b : Int} {k : Nat} (hk : k < 61) (h0 : 0 ≤ b) (hb : b ≤ (k : Int)) : ((nthP (partsL (shL x b)) k).1, (nthP (partsL (shL x b)) k).2) = ((nthP (partsL x) ((k : Int) - b).toNat).1, (nthP (partsL x) ((k : Int) - b).toNat).2) := by
  rw [partsL_at hk, partsL_at (by omega)]
  simp only [reP, imP, Prod.mk.injEq]
  rw [shL_at (by omega), shL_at (by omega), shL_at (by omega), shL_at (by omega), if_pos (by omega), if_pos (by omega), if_pos (by omega), if_pos (by omega)]
  rw [show (((k + 1 : Nat) : Int) - b).toNat = ((k : Int) - b).toNat + 1 by omega, show (((k + 2 : Nat) : Int) - b).toNat = ((k : Int) - b).toNat + 2 by omega, show (((k + 3 : Nat) : Int) - b).toNat = ((k : Int) - b).toNat + 3 by omega]
  exact ⟨rfl, rfl⟩
end Go.Proofs.Ytfooefkgdcjlhaa
