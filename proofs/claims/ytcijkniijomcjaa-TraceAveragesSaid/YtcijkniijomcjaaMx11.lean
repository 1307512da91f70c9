/- A matrix with another trace: for all arguments. -/
import Derived.Test.YtcijkniijomcjaaMx10
namespace Go.Proofs.Ytcijkniijomcjaa
open Go.RowKit Go.Cpl

theorem toI_nat (e f r : Nat) : toI (e : Int) (f : Int) (r : Int) = (f * e + r) * 64 := by
  unfold toI
  have : ((f : Int) * (e : Int) + (r : Int)) * 64 = (((f * e + r) * 64 : Nat) : Int) := by simp
  rw [this, Int.toNat_natCast]
theorem wiW_le {el : Int} {xs : List Nat} {p q : Int} {ys : List Nat} {n : Nat} (hn : xs.length = n) : (wiW el xs p q ys).length ≤ n + 64 := by
  unfold wiW
  split
  · simp [fw, putL, mi_length, nums_length, hn]
    omega
  · simp
theorem With_s (el : Int) (A : Option Addr) (n cap : Nat) (xs : List Nat) (p q : Int) (ys : List Nat) (w0 : World) (hn : xs.length = n) (hr : FReads w0 A xs) (hm : n ≤ 1000) (hcp : n ≤ cap) (hy : ys.length = 64) (hel : -9223372036854775808 ≤ el ∧ el ≤ 9223372036854775807) :
    Calls Try.prog 22 #[.agg #[.int .i64 el, .slice A n cap], .agg #[.int .i64 p, .int .i64 q], .agg (trc ys)] w0 fun e w' => ∃ v, e = .returned (.tuple #[.agg #[.int .i64 (wiE el xs p q ys), v], .int .i64 (firstOf [(mxC el xs).2, pairE el p q, (firstErr ys 0).2])]) ∧ Below w0.heap.size w0 w' ∧ w'.ownsRow w0.heap.size 36 1 v (wiW el xs p q ys).length (rowF (wiW el xs p q ys)) := by
  by_cases h0 : firstOf [(mxC el xs).2, pairE el p q, (firstErr ys 0).2] = 0
  · obtain ⟨z1, z2, z3⟩ := firstOf_three h0
    obtain ⟨he1, he2, he3⟩ := mxC_0 z1
    obtain ⟨hp, hq⟩ := pairE_0 he1 z2
    have hsq := sq_bd he1
    have eE : wiE el xs p q ys = el := if_pos h0
    have eW : wiW el xs p q ys = fw (putL (mi xs) (toI el p q) (nums ys)) := if_pos h0
    rw [eE, eW, h0]
    clear eE eW
    obtain ⟨ne, rfl⟩ := Int.eq_ofNat_of_zero_le (show 0 ≤ el by omega)
    obtain ⟨f, rfl⟩ := Int.eq_ofNat_of_zero_le hp.1
    obtain ⟨r, rfl⟩ := Int.eq_ofNat_of_zero_le hq.1
    have hne : n = ne * ne * 64 := by
      have e : ((ne * ne : Nat) : Int) = (ne : Int) * (ne : Int) := Int.natCast_mul _ _
      omega
    obtain ⟨ad, rfl, _⟩ := hr 0 (by omega)
    have hfr : f < ne ∧ r < ne := by omega
    have hlt := pair_lt hfr.1 hfr.2
    refine (With_ok ne n cap ad xs f r ys w0 hn hr hm hcp (by omega) hne hy h0 hfr).mono ?_
    rintro e w' ⟨v, he, hb, ho⟩
    refine ⟨v, he, hb, ?_⟩
    rw [toI_nat]
    have hl : (fw (putL (mi xs) ((f * ne + r) * 64) (nums ys))).length = ne * ne * 64 := by
      rw [fw_length, putL_length (by rw [mi_length, nums_length]; omega), mi_length, hn, hne]
    rw [hl]; exact ho
  · have eE : wiE el xs p q ys = 0 := if_neg h0
    have eW : wiW el xs p q ys = [] := if_neg h0
    rw [eE, eW]
    exact With_err el A n cap xs p q ys w0 hn hr hm hy hel h0
theorem fo3_1 {a b c : Int} (h : ¬ a = 0) : firstOf [a, b, c] = a := by simp [firstOf, h]
theorem fo3_2 {a b c : Int} (h : a = 0) (h2 : ¬ b = 0) : firstOf [a, b, c] = b := by subst h; simp [firstOf, h2]
theorem fo3_3 {a b c : Int} (h : a = 0) (h2 : b = 0) : firstOf [a, b, c] = c := by subst h; subst h2; simp only [firstOf]; by_cases hc : c = 0 <;> simp [hc]
theorem fo2_0 {a b : Int} (h : a = 0) (h2 : b = 0) : firstOf [a, b] = 0 := by subst h; subst h2; rfl
theorem fo3_y {a b c : Int} (h : a = 0) (h2 : b = 0) (h3 : c = 0) : firstOf [a, b, c] = 0 := (fo3_3 h h2).trans h3
theorem firstErr_fw {l : List Int} (h : ∀ k, -2047 ≤ nthI l k ∧ nthI l k ≤ 2047) : (firstErr (fw l) 0).2 = 0 := by
  have key : ∀ (xs : List Nat) (k : Nat), (∀ x ∈ xs, sErr x = 0) → (firstErr xs k).2 = 0 := by
    intro xs
    induction xs with
    | nil => intro k _; rfl
    | cons x xs ih =>
      intro k hx
      simp only [firstErr]
      rw [hx x (List.mem_cons_self ..)]
      simp only [if_true]
      first | exact ih _ (fun y hy => hx y (List.mem_cons_of_mem _ hy)) | (simp; exact ih _ (fun y hy => hx y (List.mem_cons_of_mem _ hy)))
  refine key _ _ fun x hx => ?_
  simp only [fw, List.mem_map] at hx
  obtain ⟨y, hy, rfl⟩ := hx
  obtain ⟨i, hi, rfl⟩ := List.getElem_of_mem hy
  have := h i
  rw [nthI_eq hi] at this
  rw [sErr_of _ (by omega), if_pos this]
theorem num_fw {l : List Int} (h : ∀ k, -2047 ≤ nthI l k ∧ nthI l k ≤ 2047) : mi (fw l) = l := by
  apply List.ext_getElem
  · simp [mi, fw]
  · intro i h1 h2
    have := h i
    rw [nthI_eq h2] at this
    simp [mi, fw]
    exact num_of _ (by omega)
theorem nums_mi {xs : List Nat} (h : xs.length = 64) : nums xs = mi xs := by
  apply List.ext_getElem
  · simp [nums, mi, h]
  · intro i h1 h2
    have hi : i < xs.length := by simpa [mi] using h2
    simp [nums, mi, nth_eq hi]
theorem cutN_range {l : List Int} (h : ∀ k, -2047 ≤ nthI l k ∧ nthI l k ≤ 2047) (i n : Nat) : ∀ k, -2047 ≤ nthI (cutN l i n) k ∧ nthI (cutN l i n) k ≤ 2047 := by
  intro k
  by_cases hk : k < n
  · rw [cutN_nth hk]; exact h _
  · simp [nthI, List.getElem?_eq_none (show (cutN l i n).length ≤ k by rw [cutN_length]; omega)]
theorem nums_cut {xs : List Nat} {i : Nat} (h : i + 64 ≤ xs.length) : nums (cutF xs i 64) = cutN (mi xs) i 64 := by
  rw [← mi_cut h, done_all]
  apply List.map_congr_left
  intro j hj
  rw [cutF_nth (List.mem_range.1 hj)]
theorem putL_own {l : List Int} {i : Nat} (h : i + 64 ≤ l.length) : putL l i (cutN l i 64) = l := by
  unfold putL
  rw [cutN_length, take_cutN h, List.take_append_drop]
/-- The trace of a pair, of a right matrix. -/
theorem toF_fw {el : Int} {xs : List Nat} {p q : Int} (z1 : (mxC el xs).2 = 0) (z2 : pairE el p q = 0) : toF el xs p q = fw (cutN (mi xs) (toI el p q) 64) ∧ toI el p q + 64 ≤ xs.length := by
  obtain ⟨he1, he2, he3⟩ := mxC_0 z1
  obtain ⟨hp, hq⟩ := pairE_0 he1 z2
  have hsq := sq_bd he1
  have hpa := pair_at he1 hp hq
  have hti : toI el p q = ((p * el + q) * 64).toNat := rfl
  have hb : toI el p q + 64 ≤ xs.length := by omega
  refine ⟨?_, hb⟩
  rw [toF_y (fo2_0 z1 z2), nums_cut hb, mkT_fw (cutN_length _ _ _)]
theorem toF_err {el : Int} {xs : List Nat} {p q : Int} (z1 : (mxC el xs).2 = 0) (z2 : pairE el p q = 0) : (firstErr (toF el xs p q) 0).2 = 0 := by
  rw [(toF_fw z1 z2).1]
  exact firstErr_fw (cutN_range (mi_range (right_of (mxC_0 z1).2.2)) _ _)
theorem wi_own {el : Int} {xs : List Nat} {p q : Int} (z1 : (mxC el xs).2 = 0) (z2 : pairE el p q = 0) : wiW el xs p q (toF el xs p q) = fw (mi xs) := by
  have h := toF_fw z1 z2
  unfold wiW
  rw [if_pos (fo3_y z1 z2 (toF_err z1 z2)), nums_mi (toF_length _ _ _ _), h.1, num_fw (cutN_range (mi_range (right_of (mxC_0 z1).2.2)) _ _), putL_own (by rw [mi_length]; exact h.2)]

end Go.Proofs.Ytcijkniijomcjaa
