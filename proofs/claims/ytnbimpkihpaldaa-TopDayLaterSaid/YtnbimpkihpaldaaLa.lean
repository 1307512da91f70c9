import Derived.Test.YtnbimpkihpaldaaSp2
/-! The plain law of the reference: the last event of a step, and what is kept behind it. -/
namespace Go.Proofs.Ytnbimpkihpaldaa
open Go.RowKit Go.Cpl
/-- The last event of a step ahead of an event, or -1. -/
def laE (el : List Int) (s : Int) : Nat → Int
  | 0 => -1
  | k + 1 => if nthI el (k * 3 + 1) = s then (k : Int) else laE el s k
theorem laE_range (el : List Int) (s : Int) (n : Nat) : -1 ≤ laE el s n ∧ laE el s n < (n : Int) := by
  induction n with
  | zero => exact ⟨Int.le_refl _, by show (-1 : Int) < 0; decide⟩
  | succ n ih => unfold laE; split <;> omega
theorem laE_y {el : List Int} {s : Int} {j : Nat} (hj : 0 < j) (h : nthI el ((j - 1) * 3 + 1) = s) : laE el s j = (j : Int) - 1 := by
  obtain ⟨j, rfl⟩ : ∃ k, j = k + 1 := ⟨j - 1, by omega⟩
  rw [Nat.add_sub_cancel] at h
  unfold laE
  rw [if_pos h]; omega
theorem laE_n {el : List Int} {s : Int} {j : Nat} (hj : 0 < j) (h : ¬ nthI el ((j - 1) * 3 + 1) = s) : laE el s j = laE el s (j - 1) := by
  obtain ⟨j, rfl⟩ : ∃ k, j = k + 1 := ⟨j - 1, by omega⟩
  rw [Nat.add_sub_cancel] at h ⊢
  exact if_neg h
theorem laE_spec {el : List Int} {s : Int} {n a : Nat} (h : laE el s n = (a : Int)) : a < n ∧ nthI el (a * 3 + 1) = s ∧ ∀ k, a < k → k < n → nthI el (k * 3 + 1) ≠ s := by
  induction n with
  | zero => unfold laE at h; omega
  | succ n ih =>
    unfold laE at h
    split at h
    · rename_i e
      obtain rfl : n = a := by omega
      exact ⟨by omega, e, fun k h1 h2 => by omega⟩
    · rename_i e
      obtain ⟨h1, h2, h3⟩ := ih h
      refine ⟨by omega, h2, fun k q1 q2 => ?_⟩
      rcases Nat.lt_or_ge k n with z | z
      · exact h3 k q1 z
      · obtain rfl : k = n := by omega
        exact e
theorem laE_none {el : List Int} {s : Int} {n : Nat} (h : laE el s n < 0) : ∀ k, k < n → nthI el (k * 3 + 1) ≠ s := by
  induction n with
  | zero => intro k hk; omega
  | succ n ih =>
    intro k hk
    unfold laE at h
    split at h
    · omega
    · rename_i e
      rcases Nat.lt_or_ge k n with z | z
      · exact ih h k z
      · obtain rfl : k = n := by omega
        exact e
theorem bk_nx {ss : List Sp} {el : List Int} {i k : Nat} (h : nthI el (k * 3 + 1) ≠ (i : Int)) : bk ss el i (k + 1) = if (decide (abI (nthI el (k * 3 + 2) - (bk ss el i k).wa) > (spK ss i).wa) || (spK ss i).ne.contains (nthI el (k * 3 + 1))) = true then ⟨(bk ss el i k).dn, false, (bk ss el i k).mi, (bk ss el i k).wa⟩ else bk ss el i k := by
  show bkA _ _ _ _ _ _ = _
  unfold bkA
  rw [if_neg (fun e => h e.symm)]
theorem kp_off {ss : List Sp} {el : List Int} {i k n : Nat} (hk : k ≤ n) (h : (bk ss el i k).kp = false) (h2 : ∀ j, k ≤ j → j < n → nthI el (j * 3 + 1) ≠ (i : Int)) : (bk ss el i n).kp = false := by
  induction n with
  | zero => obtain rfl : k = 0 := by omega
            exact h
  | succ n ih =>
    rcases Nat.lt_or_ge n k with z | z
    · obtain rfl : k = n + 1 := by omega
      exact h
    · rw [bk_nx (h2 n z (by omega))]
      have := ih z (fun j q1 q2 => h2 j q1 (by omega))
      split
      · rfl
      · exact this
theorem kp_none {ss : List Sp} {el : List Int} {i n : Nat} (h : laE el (i : Int) n < 0) : (bk ss el i n).kp = false := kp_off (Nat.zero_le _) rfl fun j _ q => laE_none h j q
theorem bk_at {ss : List Sp} {el : List Int} {i n a : Nat} (h : laE el (i : Int) n = (a : Int)) : bk ss el i (a + 1) = ⟨true, true, nthI el (a * 3), nthI el (a * 3 + 2)⟩ := by
  show bkA _ _ _ _ _ _ = _
  unfold bkA
  rw [if_pos (laE_spec h).2.1.symm]
theorem kp_step {ss : List Sp} {el : List Int} {i n a k : Nat} {m w : Int} (h : laE el (i : Int) n = (a : Int)) (h1 : a < k) (h2 : k < n) (hb : bk ss el i k = ⟨true, true, m, w⟩) (hc : (decide (abI (nthI el (k * 3 + 2) - w) > (spK ss i).wa) || (spK ss i).ne.contains (nthI el (k * 3 + 1))) = false) : bk ss el i (k + 1) = ⟨true, true, m, w⟩ := by
  rw [bk_nx ((laE_spec h).2.2 k h1 h2), hb]
  exact if_neg (by rw [hc]; decide)
theorem kp_cut {ss : List Sp} {el : List Int} {i n a k : Nat} {m w : Int} (h : laE el (i : Int) n = (a : Int)) (h1 : a < k) (h2 : k < n) (hb : bk ss el i k = ⟨true, true, m, w⟩) (hc : (decide (abI (nthI el (k * 3 + 2) - w) > (spK ss i).wa) || (spK ss i).ne.contains (nthI el (k * 3 + 1))) = true) : (bk ss el i n).kp = false := by
  refine kp_off (k := k + 1) (by omega) ?_ fun j q1 q2 => (laE_spec h).2.2 j (by omega) q2
  rw [bk_nx ((laE_spec h).2.2 k h1 h2), hb]
  exact congrArg Ls.kp (if_pos hc)
theorem bk_mi {ss : List Sp} {el : List Int} {i n a : Nat} (h : laE el (i : Int) n = (a : Int)) : (bk ss el i n).mi = nthI el (a * 3) := by
  obtain ⟨h1, h2, h3⟩ := laE_spec h
  have key : ∀ d, a + 1 + d ≤ n → (bk ss el i (a + 1 + d)).mi = nthI el (a * 3) := by
    intro d
    induction d with
    | zero => intro _; rw [show a + 1 + 0 = a + 1 from rfl, bk_at h]
    | succ d ih =>
      intro hd
      rw [show a + 1 + (d + 1) = a + 1 + d + 1 from rfl, bk_nx (h3 _ (by omega) (by omega))]
      have := ih (by omega)
      split
      · exact this
      · exact this
  have := key (n - (a + 1)) (by omega)
  rwa [show a + 1 + (n - (a + 1)) = n by omega] at this
/-- The bools of the reference's table of valid steps, step by step. -/
def vaF (ss : List Sp) (b : Nat → Ls) (m : Int) (i : Nat) : Nat → Bool := fun j => if j < i then vd ss b m j else false
def vaG (ss : List Sp) (b : Nat → Ls) (m : Int) (i k : Nat) : Nat → Bool := fun j => if j < i then vd ss b m j else if j = i then ((b i).kp && decide (m ≤ (b i).mi + (spK ss i).la)) && ((spK ss i).ne.take k).all (fun n => vd ss b m n.toNat) else false
theorem vaG_zero {ss : List Sp} {b : Nat → Ls} {m : Int} {i : Nat} {v : Bool} (h : v = ((b i).kp && decide (m ≤ (b i).mi + (spK ss i).la))) : setB (vaF ss b m i) i v = vaG ss b m i 0 := by
  funext j
  unfold setB vaF vaG
  by_cases q : j = i
  · subst q
    rw [if_pos rfl, if_neg (Nat.lt_irrefl _), if_pos rfl, List.take_zero, List.all_nil, Bool.and_true, h]
  · rw [if_neg q, if_neg q]
theorem vaG_snoc {ss : List Sp} {b : Nat → Ls} {m : Int} {i k : Nat} {v : Bool} (hk : k < (spK ss i).ne.length) (h : v = (vaG ss b m i k i && vd ss b m (nthI (spK ss i).ne k).toNat)) : setB (vaG ss b m i k) i v = vaG ss b m i (k + 1) := by
  funext j
  unfold setB
  by_cases q : j = i
  · subst q
    rw [if_pos rfl, h]
    unfold vaG
    rw [if_neg (Nat.lt_irrefl _), if_pos rfl, if_neg (Nat.lt_irrefl _), if_pos rfl, take_snocI hk, List.all_append, List.all_cons, List.all_nil, Bool.and_true, Bool.and_assoc]
  · rw [if_neg q]
    unfold vaG
    rw [if_neg q, if_neg q]
theorem vaG_old {ss : List Sp} {b : Nat → Ls} {m : Int} {i k j : Nat} (h : j < i) : vaG ss b m i k j = vd ss b m j := if_pos h
theorem vaG_end {ss : List Sp} {b : Nat → Ls} {m : Int} {i k : Nat} (H : Ahead ss) (hk : ∀ i, (b i).kp = true → (b i).dn = true) (hi : i < ss.length) (h : (spK ss i).ne.length ≤ k) : vaG ss b m i k = vaF ss b m (i + 1) := by
  funext j
  unfold vaG vaF
  by_cases q : j < i
  · rw [if_pos q, if_pos (by omega)]
  · rw [if_neg q]
    by_cases z : j = i
    · subst z
      rw [if_pos rfl, if_pos (by omega), vd_eq H hk m hi, List.take_of_length_le h]
    · rw [if_neg z, if_neg (by omega)]
theorem bkF_kd (ss : List Sp) (el : List Int) (k : Nat) : ∀ i, (bkF ss el k i).kp = true → (bkF ss el k i).dn = true := fun _ => bk_kd
theorem vaF_all {ss : List Sp} {b : Nat → Ls} {m : Int} : bX ss.length (vaF ss b m ss.length) = bX ss.length (vd ss b m) := bX_congr fun _ h => if_pos h
/-- The first steps are right. -/
structure GoodP (ss : List Sp) (i : Nat) : Prop where
  names : ∀ j, j < i → nameB (spK ss j).nm = true
  dist : ∀ j k, k < j → j < i → (spK ss k).nm ≠ (spK ss j).nm
  incr : ∀ j, j < i → ∀ k, 0 < k → k < (spK ss j).ne.length → nthI (spK ss j).ne (k - 1) < nthI (spK ss j).ne k
  ahead : ∀ j, j < i → ∀ k, k < (spK ss j).ne.length → 0 ≤ nthI (spK ss j).ne k ∧ nthI (spK ss j).ne k ≤ (j : Int) - 1
  lasts : ∀ j, j < i → 1 ≤ (spK ss j).la ∧ (spK ss j).la ≤ 1000000
  warm : ∀ j, j < i → 0 ≤ (spK ss j).wa ∧ (spK ss j).wa ≤ 2000
theorem GoodP.zero (ss : List Sp) : GoodP ss 0 := ⟨fun _ h => absurd h (Nat.not_lt_zero _), fun _ _ _ h => absurd h (Nat.not_lt_zero _), fun _ h => absurd h (Nat.not_lt_zero _), fun _ h => absurd h (Nat.not_lt_zero _), fun _ h => absurd h (Nat.not_lt_zero _), fun _ h => absurd h (Nat.not_lt_zero _)⟩
theorem lt_snoc {p : Nat → Prop} {i : Nat} (h : ∀ j, j < i → p j) (hi : p i) : ∀ j, j < i + 1 → p j := by
  intro j hj
  rcases Nat.lt_or_ge j i with q | q
  · exact h j q
  · obtain rfl : j = i := by omega
    exact hi
theorem GoodP.snoc {ss : List Sp} {i : Nat} (g : GoodP ss i) (h1 : nameB (spK ss i).nm = true) (h2 : ∀ k, k < i → (spK ss k).nm ≠ (spK ss i).nm) (h3 : ∀ k, 0 < k → k < (spK ss i).ne.length → nthI (spK ss i).ne (k - 1) < nthI (spK ss i).ne k) (h4 : ∀ k, k < (spK ss i).ne.length → 0 ≤ nthI (spK ss i).ne k ∧ nthI (spK ss i).ne k ≤ (i : Int) - 1) (h5 : 1 ≤ (spK ss i).la ∧ (spK ss i).la ≤ 1000000) (h6 : 0 ≤ (spK ss i).wa ∧ (spK ss i).wa ≤ 2000) : GoodP ss (i + 1) :=
  ⟨lt_snoc g.names h1, fun j k hk hj => lt_snoc (p := fun j => ∀ k, k < j → (spK ss k).nm ≠ (spK ss j).nm) (fun j hj k hk => g.dist j k hk hj) h2 j hj k hk, lt_snoc g.incr h3, lt_snoc g.ahead h4, lt_snoc g.lasts h5, lt_snoc g.warm h6⟩
theorem GoodP.all {ss : List Sp} (g : GoodP ss ss.length) (h : 1 ≤ ss.length ∧ ss.length ≤ 10) : GoodS ss :=
  ⟨h, g.names, fun i k hk hi => g.dist i k hk hi, g.incr, fun i hi n hn => by
    obtain ⟨k, hk, e⟩ := List.getElem_of_mem hn
    have := g.ahead i hi k hk
    rw [nthI_eq hk, e] at this
    omega, g.lasts, g.warm⟩
theorem nb_t {b : Bool} (h : (!b) = false) : b = true := by cases b <;> simp_all
theorem nor_t {a b : Bool} (h : (!a || !b) = false) : a = true ∧ b = true := by cases a <;> cases b <;> simp_all
theorem need_lt {a b : Int} {k : Nat} (h : (decide ((k : Int) > 0) && decide (a ≤ b)) = false) (hk : 0 < k) : b < a := by
  rw [decide_eq_true (by omega), Bool.true_and] at h
  have := of_decide_eq_false h
  omega
theorem kp_la {ss : List Sp} {el : List Int} {i n : Nat} (h : (bk ss el i n).kp = true) : 0 ≤ laE el (i : Int) n := by
  rcases Int.lt_or_le (laE el (i : Int) n) 0 with q | q
  · rw [kp_none q] at h; cases h
  · exact q
theorem va_t {ss : List Sp} {el : List Int} {i n a : Nat} {m la : Int} (h : (bk ss el i n).kp = true) (ha : laE el (i : Int) n = (a : Int)) (hl : la = (spK ss i).la) : decide (m ≤ nthI el (a * 3) + la) = ((bkF ss el n i).kp && decide (m ≤ (bkF ss el n i).mi + (spK ss i).la)) := by
  show _ = ((bk ss el i n).kp && decide (m ≤ (bk ss el i n).mi + _))
  rw [h, Bool.true_and, bk_mi ha, hl]
theorem va_f {ss : List Sp} {el : List Int} {i n : Nat} {b : Bool} (h : (bk ss el i n).kp = false) : false = ((bkF ss el n i).kp && b) := by
  show _ = ((bk ss el i n).kp && b)
  rw [h, Bool.false_and]
end Go.Proofs.Ytnbimpkihpaldaa
