/- Matrices turned round, and unlike pairs: for all arguments. -/
import Derived.Test.YtcijkniijomcjaaMx17
namespace Go.Proofs.Ytcijkniijomcjaa
open Go.RowKit Go.Cpl

def trE (el : Int) (xs : List Nat) : Int := if (mxC el xs).2 = 0 then el else 0
def trW (el : Int) (xs : List Nat) : List Nat := if (mxC el xs).2 = 0 then fw (trL (mi xs) el.toNat (pairsOf el.toNat)) else []
def unW (el : Int) (xs : List Nat) (nz : Int) : List (Nat × Nat) := if (mxC el xs).2 = 0 ∧ inB nz 0 4094 = true then (pairsOf el.toNat).filter (unB (mi xs) el.toNat nz) else []
def unZ (el : Int) (xs : List Nat) (nz : Int) : Int := if (mxC el xs).2 = 0 then (if inB nz 0 4094 = true then 0 else 2) else (mxC el xs).2
theorem unW_le (el : Int) (xs : List Nat) (nz : Int) : (unW el xs nz).length ≤ 256 := by
  unfold unW
  split
  · rename_i h
    have h1 := sel_len (B := unB (mi xs) el.toNat nz) (pairsOf el.toNat)
    rw [pairs_len] at h1
    have h2 := el_le h.1
    have h3 := Nat.mul_le_mul h2 h2
    omega
  · simp
theorem unW_n {el : Int} {xs : List Nat} {nz : Int} (h : ¬ (mxC el xs).2 = 0) : unW el xs nz = [] := if_neg fun q => h q.1
theorem unW_r {el : Int} {xs : List Nat} {nz : Int} (h : inB nz 0 4094 = false) : unW el xs nz = [] := if_neg fun q => by rw [h] at q; exact absurd q.2 (by decide)
theorem unZ_n {el : Int} {xs : List Nat} {nz : Int} (h : ¬ (mxC el xs).2 = 0) : unZ el xs nz = (mxC el xs).2 := if_neg h
theorem unZ_r {el : Int} {xs : List Nat} {nz : Int} (h : (mxC el xs).2 = 0) (h2 : inB nz 0 4094 = false) : unZ el xs nz = 2 := by unfold unZ; rw [if_pos h, h2]; rfl
theorem unZ_y {el : Int} {xs : List Nat} {nz : Int} (h : (mxC el xs).2 = 0) (h2 : inB nz 0 4094 = true) : unZ el xs nz = 0 := by unfold unZ; rw [if_pos h, h2]; rfl
theorem Transposed_s (el : Int) (A : Option Addr) (n cap : Nat) (xs : List Nat) (w0 : World) (hn : xs.length = n) (hr : FReads w0 A xs) (hm : n ≤ 1000) (hcp : n ≤ cap) :
    Calls Try.prog 42 #[.agg #[.int .i64 el, .slice A n cap]] w0 fun e w' => ∃ v, e = .returned (.tuple #[.agg #[.int .i64 (trE el xs), v], .int .i64 (mxC el xs).2]) ∧ Below w0.heap.size w0 w' ∧ w'.ownsRow w0.heap.size 36 1 v (trW el xs).length (rowF (trW el xs)) := by
  by_cases h0 : (mxC el xs).2 = 0
  · rw [trE, trW, if_pos h0, if_pos h0, h0]
    obtain ⟨he1, he2, he3⟩ := mxC_0 h0
    have hsq := sq_bd he1
    obtain ⟨ne, rfl⟩ := Int.eq_ofNat_of_zero_le (show 0 ≤ el by omega)
    have hne : n = ne * ne * 64 := by
      have e : ((ne * ne : Nat) : Int) = (ne : Int) * (ne : Int) := Int.natCast_mul _ _
      omega
    obtain ⟨ad, rfl, _⟩ := hr 0 (by omega)
    have hl : (fw (trL (mi xs) (ne : Int).toNat (pairsOf (ne : Int).toNat))).length = ne * ne * 64 := by rw [fw_length, trL_length, pairs_len]; rfl
    rw [hl]
    exact Transposed_ok ne n cap ad xs w0 hn hr hm hcp (by omega) hne h0
  · rw [trE, trW, if_neg h0, if_neg h0]
    exact Transposed_err el A n cap xs w0 hn hr hm h0
theorem Unlike_s (el : Int) (A : Option Addr) (n cap : Nat) (xs : List Nat) (nz : Int) (w0 : World) (hn : xs.length = n) (hr : FReads w0 A xs) (hm : n ≤ 1000) (hcp : n ≤ cap) :
    Calls Try.prog 43 #[.agg #[.int .i64 el, .slice A n cap], .int .i64 nz] w0 fun e w' => ∃ v, e = .returned (.tuple #[v, .int .i64 (unZ el xs nz)]) ∧ Below w0.heap.size w0 w' ∧ w'.ownsRow w0.heap.size 26 2 v (unW el xs nz).length (rowI (flP (unW el xs nz))) := by
  by_cases h0 : (mxC el xs).2 = 0
  · cases hnz : inB nz 0 4094 with
    | true =>
      rw [unZ_y h0 hnz, unW, if_pos ⟨h0, hnz⟩]
      obtain ⟨he1, he2, he3⟩ := mxC_0 h0
      have hsq := sq_bd he1
      obtain ⟨ne, rfl⟩ := Int.eq_ofNat_of_zero_le (show 0 ≤ el by omega)
      have hne : n = ne * ne * 64 := by
        have e : ((ne * ne : Nat) : Int) = (ne : Int) * (ne : Int) := Int.natCast_mul _ _
        omega
      obtain ⟨ad, rfl, _⟩ := hr 0 (by omega)
      exact Unlike_ok ne n cap ad xs nz w0 hn hr hm hcp (by omega) hne h0 hnz
    | false =>
      rw [unZ_r h0 hnz, unW_r hnz]
      obtain ⟨he1, he2, he3⟩ := mxC_0 h0
      have hsq := sq_bd he1
      obtain ⟨ne, rfl⟩ := Int.eq_ofNat_of_zero_le (show 0 ≤ el by omega)
      have hne : n = ne * ne * 64 := by
        have e : ((ne * ne : Nat) : Int) = (ne : Int) * (ne : Int) := Int.natCast_mul _ _
        omega
      obtain ⟨ad, rfl, _⟩ := hr 0 (by omega)
      refine (Unlike_nz ne n cap ad xs nz w0 hn hr hm hcp (by omega) hne h0 hnz).mono ?_
      rintro e w' ⟨rfl, hb⟩
      exact ⟨_, rfl, hb, ownsRow_nil'⟩
  · rw [unZ_n h0, unW_n h0]
    refine (Unlike_err el A n cap xs nz w0 hn hr hm h0).mono ?_
    rintro e w' ⟨rfl, hb⟩
    exact ⟨_, rfl, hb, ownsRow_nil'⟩
theorem refTransposed_s (el : Int) (A : Option Addr) (n cap : Nat) (xs : List Nat) (w0 : World) (hn : xs.length = n) (hr : FReads w0 A xs) (hm : n ≤ 1000) (h0 : (mxC el xs).2 = 0) :
    Calls Try.prog 44 #[.agg #[.int .i64 el, .slice A n cap]] w0 fun e w' => ∃ v, e = .returned (.agg #[.int .i64 el, v]) ∧ Below w0.heap.size w0 w' ∧ w'.ownsRow w0.heap.size 36 1 v (trW el xs).length (rowF (trW el xs)) := by
  rw [trW, if_pos h0]
  obtain ⟨he1, he2, he3⟩ := mxC_0 h0
  have hsq := sq_bd he1
  obtain ⟨ne, rfl⟩ := Int.eq_ofNat_of_zero_le (show 0 ≤ el by omega)
  have hne : n = ne * ne * 64 := by
    have e : ((ne * ne : Nat) : Int) = (ne : Int) * (ne : Int) := Int.natCast_mul _ _
    omega
  obtain ⟨ad, rfl, _⟩ := hr 0 (by omega)
  have hl : (fw (trL (mi xs) (ne : Int).toNat (pairsOf (ne : Int).toNat))).length = n := by rw [fw_length, trL_length, pairs_len, hne]; rfl
  rw [hl]
  exact refTransposed_ok ne n cap (some ad) xs w0 hn hr hm (by omega) hne h0
theorem refUnlike_s (el : Int) (A : Option Addr) (n cap : Nat) (xs : List Nat) (nz : Int) (w0 : World) (hn : xs.length = n) (hr : FReads w0 A xs) (hm : n ≤ 1000) (h0 : (mxC el xs).2 = 0) (hnz : inB nz 0 4094 = true) :
    Calls Try.prog 45 #[.agg #[.int .i64 el, .slice A n cap], .int .i64 nz] w0 fun e w' => ∃ v, e = .returned v ∧ Below w0.heap.size w0 w' ∧ w'.ownsRow w0.heap.size 26 2 v (unW el xs nz).length (rowI (flP (unW el xs nz))) := by
  rw [unW, if_pos ⟨h0, hnz⟩]
  obtain ⟨he1, he2, he3⟩ := mxC_0 h0
  have hsq := sq_bd he1
  obtain ⟨ne, rfl⟩ := Int.eq_ofNat_of_zero_le (show 0 ≤ el by omega)
  have hne : n = ne * ne * 64 := by
    have e : ((ne * ne : Nat) : Int) = (ne : Int) * (ne : Int) := Int.natCast_mul _ _
    omega
  obtain ⟨ad, rfl, _⟩ := hr 0 (by omega)
  exact refUnlike_ok ne n cap (some ad) xs nz w0 hn hr hm (by omega) hne h0
/-! Twice -/
theorem trL_at {l : List Int} {n f r : Nat} (hf : f < n) (hr : r < n) : cutN (trL l n (pairsOf n)) ((f * n + r) * 64) 64 = cutN l ((r * n + f) * 64) 64 := by
  obtain ⟨rest, e⟩ := pairs_at hf hr
  have hlt := pair_lt hf hr
  have hl := trL_length l n (pairsOf n)
  rw [pairs_len] at hl
  rw [cutN_take (by omega), e, trL_app, List.drop_append_of_le_length (by rw [trL_length, preP_length]; exact Nat.le_refl _), List.drop_of_length_le (by rw [trL_length, preP_length]; exact Nat.le_refl _), List.nil_append]
  have e2 : trL l n ((f, r) :: rest) = cutN l ((r * n + f) * 64) 64 ++ trL l n rest := by simp [trL]
  rw [e2, List.take_append_of_le_length (by rw [cutN_length]; exact Nat.le_refl _), List.take_of_length_le (by rw [cutN_length]; exact Nat.le_refl _)]
theorem id_take {l : List Int} {n : Nat} (hl : l.length = n * n * 64) : ∀ k, k ≤ n * n → (((pairsOf n).take k).flatMap fun p => cutN l ((p.1 * n + p.2) * 64) 64) = l.take (k * 64) := by
  intro k
  induction k with
  | zero => intro _; simp
  | succ k ih =>
    intro hk
    have hkl : k < (pairsOf n).length := by rw [pairs_len]; omega
    have e : pairsOf n = (pairsOf n).take k ++ (pairsOf n)[k] :: (pairsOf n).drop (k + 1) := by
      rw [← List.drop_eq_getElem_cons hkl, List.take_append_drop]
    obtain ⟨h1, h2, h3⟩ := pairs_next e
    rw [List.length_take, Nat.min_eq_left (by omega)] at h3
    rw [List.take_add_one, List.getElem?_eq_getElem hkl, List.flatMap_append, ih (by omega)]
    simp only [Option.toList_some, List.flatMap_cons, List.flatMap_nil, List.append_nil]
    rw [← h3, take_cutN (by omega), Nat.succ_mul]
theorem trL_twice {l : List Int} {n : Nat} (hl : l.length = n * n * 64) : trL (trL l n (pairsOf n)) n (pairsOf n) = l := by
  have e : trL (trL l n (pairsOf n)) n (pairsOf n) = (pairsOf n).flatMap fun p => cutN l ((p.1 * n + p.2) * 64) 64 := by
    have key : ∀ ps : List (Nat × Nat), (∀ p ∈ ps, p.1 < n ∧ p.2 < n) → trL (trL l n (pairsOf n)) n ps = ps.flatMap fun p => cutN l ((p.1 * n + p.2) * 64) 64 := by
      intro ps
      induction ps with
      | nil => intro _; rfl
      | cons p ps ih =>
        intro h
        have hp := h p (List.mem_cons_self ..)
        have e1 : trL (trL l n (pairsOf n)) n (p :: ps) = cutN (trL l n (pairsOf n)) ((p.2 * n + p.1) * 64) 64 ++ trL (trL l n (pairsOf n)) n ps := by simp [trL]
        rw [e1, trL_at hp.2 hp.1, ih fun q hq => h q (List.mem_cons_of_mem _ hq)]
        simp
    exact key _ fun p hp => mem_pairs.1 hp
  have h2 := id_take hl (n * n) (Nat.le_refl _)
  rw [List.take_of_length_le (by rw [pairs_len]; exact Nat.le_refl _), List.take_of_length_le (by omega)] at h2
  rw [e, h2]
theorem dif_tr {l : List Int} {n : Nat} {p : Nat × Nat} (hp : p.1 < n ∧ p.2 < n) {i : Nat} (hi : i < 64) : dif (trL l n (pairsOf n)) n p i = -(dif l n p i) := by
  have h1 := congrArg (fun k => nthI k i) (trL_at (l := l) hp.1 hp.2)
  have h2 := congrArg (fun k => nthI k i) (trL_at (l := l) hp.2 hp.1)
  simp only [cutN_nth hi] at h1 h2
  unfold dif
  rw [h1, h2]; omega
theorem unB_tr {l : List Int} {n : Nat} {nz : Int} {p : Nat × Nat} (hp : p.1 < n ∧ p.2 < n) : unB (trL l n (pairsOf n)) n nz p = unB l n nz p := by
  unfold unB anyD
  congr 1
  rw [Bool.eq_iff_iff, List.any_eq_true, List.any_eq_true]
  constructor <;>
  · rintro ⟨i, hi, h⟩
    refine ⟨i, hi, ?_⟩
    have := dif_tr (l := l) hp (List.mem_range.1 hi)
    rw [decide_eq_true_iff, mx_eq] at h ⊢
    omega
theorem mx_nat {el : Int} {xs : List Nat} (h : (mxC el xs).2 = 0) : ∃ n : Nat, el = (n : Int) ∧ (mi xs).length = n * n * 64 ∧ 1 ≤ n ∧ n ≤ 16 ∧ Right xs := by
  obtain ⟨h1, h2, h3⟩ := mxC_0 h
  obtain ⟨n, rfl⟩ := Int.eq_ofNat_of_zero_le (show 0 ≤ el by omega)
  refine ⟨n, rfl, ?_, by omega, by omega, right_of h3⟩
  have e : ((n * n : Nat) : Int) = (n : Int) * (n : Int) := Int.natCast_mul _ _
  rw [mi_length]; omega
theorem trE_ok {el : Int} {xs : List Nat} (h : (mxC el xs).2 = 0) : trE el xs = el := if_pos h
theorem trW_ok {el : Int} {xs : List Nat} (h : (mxC el xs).2 = 0) : (mxC (trE el xs) (trW el xs)).2 = 0 := by
  rw [trE, trW, if_pos h, if_pos h]
  obtain ⟨n, rfl, hl, h1, h2, hR⟩ := mx_nat h
  refine mxC_fw (inB_true.2 ⟨by omega, by omega⟩) ?_ (trL_range (mi_range hR) _ _)
  rw [trL_length, pairs_len]
  simp
theorem trW_twice {el : Int} {xs : List Nat} (h : (mxC el xs).2 = 0) : trW (trE el xs) (trW el xs) = fw (mi xs) := by
  rw [trW, if_pos (trW_ok h), trE_ok h, trW, if_pos h]
  obtain ⟨n, rfl, hl, h1, h2, hR⟩ := mx_nat h
  rw [num_fw (trL_range (mi_range hR) _ _)]
  show fw (trL (trL (mi xs) n (pairsOf n)) n (pairsOf n)) = _
  rw [trL_twice hl]
theorem trW_le {el : Int} {xs : List Nat} {n : Nat} (hn : xs.length = n) : (trW el xs).length ≤ n := by
  unfold trW
  split
  · rename_i h
    obtain ⟨m, rfl, hl, h1, h2, hR⟩ := mx_nat h
    rw [fw_length, trL_length, pairs_len]
    rw [mi_length] at hl
    show m * m * 64 ≤ n
    omega
  · simp
theorem trE_twice {el : Int} {xs : List Nat} (h : (mxC el xs).2 = 0) : trE (trE el xs) (trW el xs) = el := (if_pos (trW_ok h)).trans (trE_ok h)
theorem unW_tr {el : Int} {xs : List Nat} {nz : Int} (h : (mxC el xs).2 = 0) : unW (trE el xs) (trW el xs) nz = unW el xs nz := by
  unfold unW
  by_cases hz : inB nz 0 4094 = true
  · rw [if_pos ⟨trW_ok h, hz⟩, if_pos ⟨h, hz⟩, trE_ok h, trW, if_pos h]
    obtain ⟨n, rfl, hl, h1, h2, hR⟩ := mx_nat h
    rw [num_fw (trL_range (mi_range hR) _ _)]
    exact List.filter_congr fun p hp => unB_tr (mem_pairs.1 hp)
  · rw [if_neg fun q => hz q.2, if_neg fun q => hz q.2]

end Go.Proofs.Ytcijkniijomcjaa
