import Derived.Test.YtnbimpkihpaldaaSp3
/-! Copies of steps: a slice of the call's own that holds slices of the call's own. -/
namespace Go.Proofs.Ytnbimpkihpaldaa
open Go.RowKit Go.Cpl
/-- The cells of steps, with what stands for their needs. -/
def spV (s : Sp) (v : Value) : List Value := [.string ⟨s.nm.toArray⟩, .int .i64 s.la, .int .i64 s.wa, v]
def spX (ss : List Sp) (n : Nat) (f : Nat → Value) : List Value := (List.range n).flatMap fun i => spV (spK ss i) (f i)
theorem spX_succ (ss : List Sp) (n : Nat) (f : Nat → Value) : spX ss (n + 1) f = spX ss n f ++ spV (spK ss n) (f n) := by simp [spX, List.range_succ]
theorem spX_length (ss : List Sp) (n : Nat) (f : Nat → Value) : (spX ss n f).length = n * 4 := by
  induction n with
  | zero => rfl
  | succ n ih => rw [spX_succ, List.length_append, ih]; simp [spV]; omega
theorem spX_get {ss : List Sp} {n : Nat} {f : Nat → Value} {k : Nat} (hk : k < n) : ∀ j x, (spV (spK ss k) (f k))[j]? = some x → (spX ss n f)[k * 4 + j]? = some x := by
  induction n with
  | zero => exact absurd hk (Nat.not_lt_zero _)
  | succ n ih =>
    intro j x hx
    have hj : j < 4 := by have := (List.getElem?_eq_some_iff.1 hx).1; simpa [spV] using this
    rw [spX_succ]
    rcases Nat.lt_or_ge k n with q | q
    · rw [List.getElem?_append_left (by rw [spX_length]; omega)]
      exact ih q j x hx
    · obtain rfl : k = n := by omega
      rw [List.getElem?_append_right (by rw [spX_length]; omega), spX_length, Nat.add_sub_cancel_left]
      exact hx
theorem spX_congr {ss : List Sp} {n : Nat} {f g : Nat → Value} (h : ∀ i, i < n → f i = g i) : spX ss n f = spX ss n g := by
  induction n with
  | zero => rfl
  | succ n ih => rw [spX_succ, spX_succ, ih fun i hi => h i (by omega), h n (by omega)]
def setV (f : Nat → Value) (k : Nat) (v : Value) : Nat → Value := fun i => if i = k then v else f i
theorem spX_put {ss : List Sp} {n : Nat} {f : Nat → Value} {k : Nat} (v : Value) (hk : k < n) : putL (spX ss n f) (k * 4 + 3) [v] = spX ss n (setV f k v) := by
  induction n with
  | zero => exact absurd hk (Nat.not_lt_zero _)
  | succ n ih =>
    rw [spX_succ, spX_succ]
    have hl := spX_length ss n f
    rcases Nat.lt_or_ge k n with q | q
    · rw [← ih q, show setV f k v n = f n from if_neg (by omega)]
      unfold putL
      rw [List.take_append_of_le_length (by omega), List.drop_append_of_le_length (by simp; omega)]
      simp
    · obtain rfl : k = n := by omega
      rw [show setV f k v k = v from if_pos rfl, ← spX_congr (f := f) (g := setV f k v) (fun i hi => (if_neg (by omega)).symm)]
      unfold putL
      rw [List.take_append, List.take_of_length_le (by omega), hl, Nat.add_sub_cancel_left, List.drop_of_length_le (by simp [spV]; omega)]
      simp [spV]
theorem spX_one {ss : List Sp} {n : Nat} {f : Nat → Value} (h : ∀ i, (f i).oneCell' = true) : (spX ss n f).all (·.oneCell') = true := by
  induction n with
  | zero => rfl
  | succ n ih => rw [spX_succ, List.all_append, ih, Bool.true_and]; simp only [spV, List.all_cons, List.all_nil, h n, Bool.and_true]; rfl
theorem sp_vreads {w : World} {A : Option Addr} {ss : List Sp} (h : SpReads w A ss) : ∃ f : Nat → Value, (∀ i, (f i).oneCell' = true) ∧ VReads w A (spX ss ss.length f) := by
  have h' : ∀ k, ∃ v : Value, v.oneCell' = true ∧ (k < ss.length → ∃ ad B c, A = some ad ∧ v = .slice B (spK ss k).ne.length c ∧ SpAt w ad (spK ss k) k B c) := fun k => by
    by_cases q : k < ss.length
    · obtain ⟨ad, B, c, e, s⟩ := h k q
      exact ⟨_, rfl, fun _ => ⟨ad, B, c, e, rfl, s⟩⟩
    · exact ⟨.slice none 0 0, rfl, fun z => absurd z q⟩
  have h1 : ∀ i, (Classical.choose (h' i)).oneCell' = true := fun i => (Classical.choose_spec (h' i)).1
  have h2 : ∀ i, i < ss.length → _ := fun i => (Classical.choose_spec (h' i)).2
  refine ⟨fun k => Classical.choose (h' k), h1, fun j x hx => ?_⟩
  have hj := (List.getElem?_eq_some_iff.1 hx).1
  rw [spX_length] at hj
  have hk : j / 4 < ss.length := by omega
  obtain ⟨ad, B, c, e, hv, s⟩ := h2 (j / 4) hk
  refine ⟨ad, e, ?_⟩
  have hm : j % 4 < (spV (spK ss (j / 4)) (Classical.choose (h' (j / 4)))).length := by simp only [spV, List.length_cons, List.length_nil]; omega
  have hg := spX_get (f := fun k => Classical.choose (h' k)) hk (j % 4) _ (List.getElem?_eq_getElem hm)
  rw [show j / 4 * 4 + j % 4 = j by omega] at hg
  have hxx := Option.some.inj (hx.symm.trans hg)
  have hc := s.cell (j % 4) x (by
    rw [hxx, ← List.getElem?_eq_getElem hm, hv]; rfl)
  rw [Addr.add_add, show j / 4 * 4 + j % 4 = j by omega] at hc
  exact hc
theorem sp_bd {w : World} {A : Option Addr} {ss : List Sp} (h : SpReads w A ss) : ∀ k, k < ss.length → (spK ss k).nm.length ≤ 9223372036854775807 ∧ (spK ss k).ne.length ≤ 9223372036854775807 := fun k hk => by
  obtain ⟨_, _, _, _, s⟩ := h k hk
  exact ⟨s.hn, s.hm⟩
/-- The slices of the needs, the last one first. -/
def inR (e : TypeId) (ss : List Sp) : List Value → List Rw
  | [] => []
  | v :: vs => ⟨v, e, 1, (spK ss vs.length).ne.length, rowI (spK ss vs.length).ne⟩ :: inR e ss vs
theorem inR_mem {e : TypeId} {ss : List Sp} {vs : List Value} {i : Nat} (hi : i < vs.length) : (⟨vI vs i, e, 1, (spK ss i).ne.length, rowI (spK ss i).ne⟩ : Rw) ∈ inR e ss vs := by
  induction vs with
  | nil => exact absurd hi (Nat.not_lt_zero _)
  | cons v vs ih =>
    rcases Nat.lt_or_ge i vs.length with q | q
    · rw [vI_old v q]; exact List.mem_cons_of_mem _ (ih q)
    · have e : i = vs.length := by rw [List.length_cons] at hi; omega
      subst e
      rw [vI_new]; exact List.mem_cons_self ..
def spF (vs : List Value) (f0 : Nat → Value) : Nat → Value := fun i => if i < vs.length then vI vs i else f0 i
theorem spF_nil (f0 : Nat → Value) : spF [] f0 = f0 := by funext i; exact if_neg (Nat.not_lt_zero _)
theorem spF_snoc (v : Value) (vs : List Value) (f0 : Nat → Value) : setV (spF vs f0) vs.length v = spF (v :: vs) f0 := by
  funext i
  unfold setV spF
  rw [List.length_cons]
  by_cases q : i = vs.length
  · subst q; rw [if_pos rfl, if_pos (by omega), vI_new]
  · rw [if_neg q]
    by_cases z : i < vs.length
    · rw [if_pos z, if_pos (by omega), vI_old v z]
    · rw [if_neg z, if_neg (by omega)]
theorem spF_all {ss : List Sp} {vs : List Value} {f0 : Nat → Value} (h : vs.length = ss.length) : spX ss ss.length (spF vs f0) = spX ss ss.length (vI vs) := spX_congr fun i hi => if_pos (by omega)
/-- Copied steps can be read. -/
theorem sp_reads {w w0 : World} {base m m' cap : Nat} {e e' : TypeId} {A A0 : Option Addr} {ss : List Sp} {vs : List Value} (hr : SpReads w0 A0 ss) (hl : vs.length = ss.length) (ho : w.ownsRow base e 4 (.slice A m cap) m' (spX ss ss.length (vI vs))) (hi : ∀ r ∈ inR e' ss vs, w.ownsRow base r.e r.size r.v r.n r.xs) : SpReads w A ss := by
  intro k hk
  obtain ⟨h1, h2⟩ := sp_bd hr k hk
  have hv := row_vreads ho
  have hin := hi _ (inR_mem (i := k) (by omega))
  obtain ⟨_, B, c, hB, hIR⟩ := rowI_reads2 hin
  obtain ⟨ad, e0, _⟩ := hv (k * 4 + 0) _ (spX_get hk 0 _ rfl)
  refine ⟨ad, B, c, e0, ⟨fun j x hx => ?_, row_ir (by rw [← hB]; exact hin), h1, h2⟩⟩
  have hx' : (spV (spK ss k) (vI vs k))[j]? = some x := by rw [← hx, show vI vs k = _ from hB]; rfl
  obtain ⟨ad', e1, hc⟩ := hv (k * 4 + j) x (spX_get hk j x hx')
  cases e0; cases e1
  rw [Addr.add_add]; exact hc
theorem row_someC {w : World} {base : Nat} {e : TypeId} {v : Value} {size m : Nat} {xs : List Value} (h : w.ownsRow base e size v m xs) (hm : 0 < m) : ∃ g cap, v = .slice (some (Addr.mk g 0 none)) m cap ∧ m ≤ cap := by
  rcases h.2 with ⟨_, h0⟩ | ⟨g, cap, cur, hv, _, _, hc, _⟩
  · omega
  · exact ⟨g, cap, hv, hc⟩
/-- Needs are few. -/
theorem GoodS.short {ss : List Sp} (g : GoodS ss) {i : Nat} (hi : i < ss.length) : (spK ss i).ne.length ≤ 10 := by
  have key : ∀ k, k < (spK ss i).ne.length → (k : Int) ≤ nthI (spK ss i).ne k := by
    intro k
    induction k with
    | zero =>
      intro hk
      have := g.ahead i hi _ (by rw [nthI_eq hk]; exact List.getElem_mem hk : nthI (spK ss i).ne 0 ∈ _)
      omega
    | succ k ih =>
      intro hk
      have h1 := ih (by omega)
      have h2 := g.incr i hi (k + 1) (by omega) hk
      rw [Nat.add_sub_cancel] at h2
      omega
  rcases Nat.lt_or_ge 10 (spK ss i).ne.length with q | q
  · have h1 := key 10 q
    have h2 := g.ahead i hi _ (by rw [nthI_eq q]; exact List.getElem_mem q : nthI (spK ss i).ne 10 ∈ _)
    have := g.few
    omega
  · exact q
end Go.Proofs.Ytnbimpkihpaldaa
