import Derived.Test.YtnbimpkihpaldaaD10
/-! The plain law of the procedure on another day. -/
namespace Go.Proofs.Ytnbimpkihpaldaa
open Go.RowKit Go.Cpl
/-- The minute and the warmth of the last event. -/
def evM (el : List Int) : Nat → Int
  | 0 => 0
  | k + 1 => nthI el (k * 3)
def evW (el : List Int) : Nat → Int
  | 0 => 0
  | k + 1 => nthI el (k * 3 + 2)
/-- The events some minutes later, and warmer. -/
def ltL (el : List Int) (d w : Int) : Nat → List Int
  | 0 => []
  | k + 1 => ltL el d w k ++ [nthI el (k * 3) + d, nthI el (k * 3 + 1), nthI el (k * 3 + 2) + w]
theorem ltL_length (el : List Int) (d w : Int) (n : Nat) : (ltL el d w n).length = n * 3 := by
  induction n with
  | zero => rfl
  | succ n ih => simp only [ltL, List.length_append, ih, List.length_cons, List.length_nil]; omega
theorem ltL_get {el : List Int} {d w : Int} {n : Nat} : ∀ k, k < n → nthI (ltL el d w n) (k * 3) = nthI el (k * 3) + d ∧ nthI (ltL el d w n) (k * 3 + 1) = nthI el (k * 3 + 1) ∧ nthI (ltL el d w n) (k * 3 + 2) = nthI el (k * 3 + 2) + w := by
  induction n with
  | zero => intro k hk; omega
  | succ n ih =>
    intro k hk
    obtain ⟨e1, e2, e3, e4⟩ := ev_app (ltL_length el d w n) (nthI el (n * 3) + d) (nthI el (n * 3 + 1)) (nthI el (n * 3 + 2) + w)
    unfold ltL
    rcases Nat.lt_or_ge k n with q | q
    · rw [e4 _ (by omega), e4 _ (by omega), e4 _ (by omega)]
      exact ih k q
    · obtain rfl : k = n := by omega
      exact ⟨e1, e2, e3⟩
/-- What the law asks of events. -/
def EvB (el : List Int) (n : Nat) : Prop := ∀ k, k < n → (0 ≤ nthI el (k * 3) ∧ nthI el (k * 3) ≤ 1000000) ∧ -1000 ≤ nthI el (k * 3 + 2) ∧ nthI el (k * 3 + 2) ≤ 1000
theorem evM_bd {el : List Int} {n : Nat} (h : EvB el n) : (0 ≤ evM el n ∧ evM el n ≤ 1000000) ∧ -1000 ≤ evW el n ∧ evW el n ≤ 1000 := by
  cases n with
  | zero => show ((0 : Int) ≤ 0 ∧ (0 : Int) ≤ 1000000) ∧ (-1000 : Int) ≤ 0 ∧ (0 : Int) ≤ 1000; decide
  | succ n => exact h n (by omega)
theorem evM_eq {el : List Int} {n : Nat} (h : 0 < n) : nthI el ((n - 1) * 3) = evM el n := by
  obtain ⟨n, rfl⟩ : ∃ k, n = k + 1 := ⟨n - 1, by omega⟩
  rfl
theorem lt_good {ss : List Sp} {el : List Int} {d w : Int} {n : Nat} (S : GoodS ss) (ge : ∀ k, k < n → GoodE ss el k) (hb : EvB el n) (hd : 0 ≤ d ∧ d ≤ 1000000) (hw : -500 ≤ w ∧ w ≤ 500) : ∀ k, k < n → GoodE ss (ltL el d w n) k := fun k hk => by
  have := hb k hk
  exact later_good S (fun j hj => ltL_get j (by omega)) (ge k hk) (by omega) (by omega)
theorem lt_later (ss : List Sp) (el : List Int) (d w : Int) (n : Nat) : ∀ i, Later d w (bkF ss el n i) (bkF ss (ltL el d w n) n i) := fun _ => later_bk fun j hj => ltL_get j hj
theorem lt_vd {ss : List Sp} {el : List Int} {d w : Int} {n en : Nat} (S : GoodS ss) (he : n = en) (m : Int) : ∀ k, k < ss.length → vd ss (bkF ss el en) m k = vd ss (bkF ss (ltL el d w n) n) (m + d) k := fun k hk => by
  subst he
  exact (later_vd S.ahead (lt_later ss el d w n) m hk).symm
theorem ev_min {el : List Int} {c : Int} {n en : Nat} (he : n = en) (hb : EvB el n) (hc : 0 ≤ c ∧ c ≤ 1000000) : (0 ≤ evM el n + c ∧ evM el n + c ≤ 100000000) ∧ (0 < en → nthI el ((en - 1) * 3) ≤ evM el n + c) := by
  subst he
  have h1 := evM_bd hb
  refine ⟨by omega, fun h => ?_⟩
  rw [evM_eq h]; omega
theorem lt_min {el : List Int} {c d w : Int} {n : Nat} (hb : EvB el n) (hc : 0 ≤ c ∧ c ≤ 1000000) (hd : 0 ≤ d ∧ d ≤ 1000000) : (0 ≤ evM el n + c + d ∧ evM el n + c + d ≤ 100000000) ∧ (0 < n → nthI (ltL el d w n) ((n - 1) * 3) ≤ evM el n + c + d) := by
  have h1 := evM_bd hb
  refine ⟨by omega, fun h => ?_⟩
  rw [(ltL_get (n - 1) (by omega)).1, evM_eq h]; omega
theorem mo_min {el : List Int} {m w : Int} {en : Nat} (hel : el.length = en * 3) (hm : 0 ≤ m ∧ m ≤ 100000000) : (0 ≤ m ∧ m ≤ 100000000) ∧ (0 < en + 1 → nthI (el ++ [m, -1, w]) ((en + 1 - 1) * 3) ≤ m) := by
  refine ⟨hm, fun _ => ?_⟩
  rw [Nat.add_sub_cancel, (ev_app hel m (-1) w).1]
  exact Int.le_refl _
theorem mo_good {ss : List Sp} {el : List Int} {m w : Int} {en : Nat} (S : GoodS ss) (hel : el.length = en * 3) (ge : ∀ k, k < en → GoodE ss el k) (hm : (0 ≤ m ∧ m ≤ 100000000) ∧ (0 < en → nthI el ((en - 1) * 3) ≤ m)) (hw : -1000 ≤ w ∧ w ≤ 1000) : ∀ k, k < en + 1 → GoodE ss (el ++ [m, -1, w]) k := by
  intro k hk
  have hf := S.few
  rcases Nat.lt_or_ge k en with q | q
  · exact GoodE.congr (fun j hj => ((ev_app hel m (-1) w).2.2.2 j (by omega)).symm) (ge k q)
  · obtain rfl : k = en := by omega
    exact goodE_of hel hm.1 (by omega) (by omega) (ord_f2 hm.2) fun h => absurd rfl h
theorem mo_vd {ss : List Sp} {el : List Int} {m : Int} {n en : Nat} (S : GoodS ss) (he : n = en) (hel : el.length = en * 3) (hn : 0 < en) (m' : Int) : ∀ k, k < ss.length → vd ss (bkF ss el en) m' k = vd ss (bkF ss (el ++ [m, -1, evW el n]) (en + 1)) m' k := by
  subst he
  obtain ⟨n, rfl⟩ : ∃ k, n = k + 1 := ⟨n - 1, by omega⟩
  obtain ⟨e1, e2, e3, e4⟩ := ev_app hel m (-1) (evW el (n + 1))
  have hb : ∀ i, i < ss.length → bkF ss el (n + 1) i = bkF ss (el ++ [m, -1, evW el (n + 1)]) (n + 1 + 1) i := fun i hi => by
    show _ = bkA (spK ss i) i (nthI (el ++ [m, -1, evW el (n + 1)]) ((n + 1) * 3)) (nthI (el ++ [m, -1, evW el (n + 1)]) ((n + 1) * 3 + 1)) (nthI (el ++ [m, -1, evW el (n + 1)]) ((n + 1) * 3 + 2)) (bk ss (el ++ [m, -1, evW el (n + 1)]) i (n + 1))
    rw [e1, e2, e3, bk_congr (em := el) (fun j hj => e4 j hj)]
    exact (more_bk S hi m).symm
  intro k hk
  unfold vd
  rw [uV_congr S.ahead hb k hk]
theorem uF_bd {g : Int → Int × Bool} {lo hi : Int} {ns : List Int} (hg : ∀ n ∈ ns, lo ≤ (g n).1) : ∀ {x : Int × Bool}, lo ≤ x.1 ∧ x.1 ≤ hi → lo ≤ (uF g x ns).1 ∧ (uF g x ns).1 ≤ hi := by
  induction ns with
  | nil => intro x h; exact h
  | cons n ns ih =>
    intro x h
    have h1 := hg n (List.mem_cons_self ..)
    refine ih (fun m hm => hg m (List.mem_cons_of_mem _ hm)) ?_
    show lo ≤ mn x.1 (g n).1 ∧ mn x.1 (g n).1 ≤ hi
    rw [mn_eq]; omega
theorem uV_bd {ss : List Sp} {b : Nat → Ls} (S : GoodS ss) (hb : ∀ j, 0 ≤ (b j).mi ∧ (b j).mi ≤ 100000000) : ∀ i, i < ss.length → 0 ≤ (uV ss b i).1 ∧ (uV ss b i).1 ≤ 101000000 := by
  intro i
  induction i using Nat.strongRecOn with
  | _ i ih =>
    intro hi
    have h1 := S.lasts i hi
    have h2 := hb i
    rw [uV_eq S.ahead hi]
    refine uF_bd (fun n hn => ?_) (by show 0 ≤ (b i).mi + (spK ss i).la ∧ (b i).mi + (spK ss i).la ≤ 101000000; omega)
    have := S.ahead i hi n hn
    exact (ih n.toNat (by omega) (by omega)).1
theorem ut_bd {ss : List Sp} {el : List Int} {en i : Nat} (S : GoodS ss) (ge : ∀ k, k < en → GoodE ss el k) (hi : i < ss.length) : 0 ≤ utI ss el en i ∧ utI ss el en i ≤ 101000000 := by
  cases h : utB ss el en i with
  | true => rw [(ut_y h).1]; decide
  | false => rw [(ut_n h).1]; exact uV_bd S (fun j => (bkF_bd ge j).1) i hi
theorem lt_utB {ss : List Sp} {el : List Int} {d w : Int} {n : Nat} (S : GoodS ss) {i : Nat} (hi : i < ss.length) : utB ss (ltL el d w n) n i = utB ss el n i := by
  unfold utB
  rcases Nat.eq_zero_or_pos n with q | q
  · rw [decide_eq_true (by omega), Bool.true_or, Bool.true_or]
  · rw [(ltL_get (n - 1) (by omega)).1, lt_vd (d := d) (w := w) (n := n) (en := n) S rfl (nthI el ((n - 1) * 3)) i hi]
theorem lt_ut {ss : List Sp} {el : List Int} {d w : Int} {n en : Nat} (S : GoodS ss) (he : n = en) {i : Nat} (hi : i < ss.length) : utZ ss (ltL el d w n) n i = utZ ss el en i ∧ (utZ ss el en i = 0 → utI ss (ltL el d w n) n i = utI ss el en i + d) := by
  subst he
  have e := lt_utB (el := el) (d := d) (w := w) (n := n) S hi
  cases h : utB ss el n i with
  | true =>
    rw [(ut_y h).2, (ut_y (e.trans h)).2]
    exact ⟨rfl, fun q => absurd q (by decide)⟩
  | false =>
    rw [(ut_n h).2, (ut_n (e.trans h)).2, (ut_n h).1, (ut_n (e.trans h)).1]
    refine ⟨rfl, fun _ => (later_uV S.ahead (lt_later ss el d w n) i hi).2 ?_⟩
    unfold utB at h
    have h2 := (Bool.or_eq_false_iff.1 h).2
    have h3 : vd ss (bkF ss el n) (nthI el ((n - 1) * 3)) i = true := by simpa using h2
    unfold vd at h3
    exact (Bool.and_eq_true_iff.1 h3).1
end Go.Proofs.Ytnbimpkihpaldaa
