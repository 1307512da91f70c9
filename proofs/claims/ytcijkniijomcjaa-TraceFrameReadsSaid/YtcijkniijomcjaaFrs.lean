import Derived.Test.YtcijkniijomcjaaRf2
/-! Frames one behind the other: where they stand, how many there are, and the slices that hold them. -/
namespace Go.Proofs.Ytcijkniijomcjaa
open Go.RowKit Go.Cpl
/-- How many bytes the frame that begins here should have; where frames begin; a frame's bytes. -/
def frN (l : Bs) (at_ : Nat) : Nat := 10 + 128 * (nthU l (at_ + 3) * nthU l (at_ + 3))
def gU (l : Bs) (at_ : Nat) : Nat := min (l.length - at_) (frN l at_)
def atU (l : Bs) : Nat → Nat
  | 0 => 0
  | k + 1 => atU l k + frN l (atU l k)
def frB (l : Bs) (k : Nat) : Bs := subU l (atU l k) (frN l (atU l k))
def frOk (l : Bs) (k : Nat) : Prop := atU l k + 8 ≤ l.length ∧ atU l k + frN l (atU l k) ≤ l.length ∧ pfZ (frB l k) = 0
/-- How many frames stand there. -/
noncomputable def frK (l : Bs) : Nat := Classical.epsilon fun k => (∀ j, j < k → frOk l j) ∧ ¬ frOk l k
theorem frK_eq {l : Bs} {k : Nat} (h : ∀ j, j < k → frOk l j) (h2 : ¬ frOk l k) : frK l = k := by
  have q : (∀ j, j < frK l → frOk l j) ∧ ¬ frOk l (frK l) := Classical.epsilon_spec (p := fun k => (∀ j, j < k → frOk l j) ∧ ¬ frOk l k) ⟨k, h, h2⟩
  rcases Nat.lt_trichotomy (frK l) k with z | z | z
  · exact absurd (h _ z) q.2
  · exact z
  · exact absurd (q.1 _ z) h2
theorem ok_snoc {l : Bs} {k : Nat} (h : ∀ j, j < k → frOk l j) (hk : frOk l k) : ∀ j, j < k + 1 → frOk l j := by
  intro j hj
  rcases Nat.lt_or_ge j k with q | q
  · exact h j q
  · obtain rfl : j = k := by omega
    exact hk
theorem frN_ge (l : Bs) (a : Nat) : 10 ≤ frN l a := Nat.le_add_right _ _
theorem gU_le (l : Bs) (a : Nat) : gU l a ≤ l.length - a := Nat.min_le_left _ _
theorem gU_ge {l : Bs} {a : Nat} (h : a + 8 ≤ l.length) : 8 ≤ gU l a := by
  have := frN_ge l a
  unfold gU; omega
theorem gU_mn {l : Bs} {a : Nat} {x y : Int} (hx : x = ((l.length - a : Nat) : Int)) (hy : y = (frN l a : Int)) : mn x y = (gU l a : Int) := by
  subst hx; subst hy
  rw [mn_eq]; unfold gU; omega
theorem pfZ_len {l : Bs} (h : pfZ l = 0) : l.length = 10 + 128 * (nthU l 3 * nthU l 3) := by
  unfold pfZ at h
  by_cases h1 : l.length < 8 ∨ ¬ subU l 0 2 = [67, 80]
  · rw [if_pos h1] at h; cases h
  rw [if_neg h1] at h
  by_cases h2 : ¬ (nthU l 2 : Int) = 1
  · rw [if_pos h2] at h; cases h
  rw [if_neg h2] at h
  by_cases h3 : inB (nthU l 3 : Int) 1 16 = false
  · rw [if_pos h3] at h; cases h
  rw [if_neg h3] at h
  by_cases h4 : ¬ l.length = 10 + 128 * (nthU l 3 * nthU l 3)
  · rw [if_pos h4] at h; cases h
  exact Decidable.of_not_not h4
theorem gU_ok {l : Bs} {a : Nat} (ha : a + 8 ≤ l.length) (h : pfZ (subU l a (gU l a)) = 0) : gU l a = frN l a := by
  have g1 := gU_le l a
  have g2 := gU_ge ha
  have e := pfZ_len h
  rw [subU_length (by omega), subU_nth (by omega)] at e
  exact e
theorem frOk_y {l : Bs} {k : Nat} (ha : atU l k + 8 ≤ l.length) (h : pfZ (subU l (atU l k) (gU l (atU l k))) = 0) : frOk l k := by
  have g1 := gU_le l (atU l k)
  have e := gU_ok ha h
  rw [e] at h
  exact ⟨ha, by omega, h⟩
theorem frOk_n {l : Bs} {k : Nat} (h : ¬ pfZ (subU l (atU l k) (gU l (atU l k))) = 0) : ¬ frOk l k := by
  rintro ⟨h1, h2, h3⟩
  have e : gU l (atU l k) = frN l (atU l k) := by unfold gU; omega
  rw [e] at h
  exact h h3
theorem ix_sub {P : Program} {t : TypeId} {l : Bs} {b n k j : Nat} {i : Int} (h : P.underlying t = some .string) (hn : b + n ≤ l.length) (hi : i = (k : Int)) (hk : k < n) (hj : j = b + k) (w : World) : (Instr.index t (.string ⟨(subU l b n).toArray⟩) (.int .i64 i)).run P w = .ok (.int .u8 (nthU l j)) w := by
  rw [ix_str k h hi (by rw [subU_length hn]; exact hk), subU_nth hk, hj]
/-- The cells of the slice, and the slices of samples, the last one first. -/
def frX (l : Bs) : List Value → List Value
  | [] => []
  | v :: vs => frX l vs ++ [.int .i64 (pfP (frB l vs.length)), .int .i64 (pfE (frB l vs.length)), v]
def frM (e : TypeId) (l : Bs) : List Value → List Rw
  | [] => []
  | v :: vs => ⟨v, e, 1, (pfW (frB l vs.length)).length, rowF (pfW (frB l vs.length))⟩ :: frM e l vs
def vI (vs : List Value) (i : Nat) : Value := vs.getD (vs.length - 1 - i) (.slice none 0 0)
theorem vI_old (v : Value) {vs : List Value} {i : Nat} (h : i < vs.length) : vI (v :: vs) i = vI vs i := by
  unfold vI
  rw [List.length_cons, show vs.length + 1 - 1 - i = (vs.length - 1 - i) + 1 by omega]
  rfl
theorem vI_new (v : Value) (vs : List Value) : vI (v :: vs) vs.length = v := by
  unfold vI
  rw [List.length_cons, show vs.length + 1 - 1 - vs.length = 0 by omega]
  rfl
theorem frX_length (l : Bs) (vs : List Value) : (frX l vs).length = vs.length * 3 := by
  induction vs with
  | nil => rfl
  | cons v vs ih => simp only [frX, List.length_append, List.length_cons, List.length_nil, ih]; omega
theorem frX_get {l : Bs} {vs : List Value} {i : Nat} (hi : i < vs.length) : ∀ j x, ([.int .i64 (pfP (frB l i)), .int .i64 (pfE (frB l i)), vI vs i] : List Value)[j]? = some x → (frX l vs)[i * 3 + j]? = some x := by
  induction vs with
  | nil => exact absurd hi (Nat.not_lt_zero _)
  | cons v vs ih =>
    intro j x hx
    have hj : j < 3 := by have := (List.getElem?_eq_some_iff.1 hx).1; simpa using this
    have hl := frX_length l vs
    unfold frX
    rcases Nat.lt_or_ge i vs.length with q | q
    · rw [vI_old v q] at hx
      rw [List.getElem?_append_left (by omega)]
      exact ih q j x hx
    · have e : i = vs.length := by rw [List.length_cons] at hi; omega
      subst e
      rw [vI_new] at hx
      rw [List.getElem?_append_right (by omega), hl, show vs.length * 3 + j - vs.length * 3 = j by omega]
      exact hx
theorem frM_mem {e : TypeId} {l : Bs} {vs : List Value} {i : Nat} (hi : i < vs.length) : (⟨vI vs i, e, 1, (pfW (frB l i)).length, rowF (pfW (frB l i))⟩ : Rw) ∈ frM e l vs := by
  induction vs with
  | nil => exact absurd hi (Nat.not_lt_zero _)
  | cons v vs ih =>
    rcases Nat.lt_or_ge i vs.length with q | q
    · rw [vI_old v q]; exact List.mem_cons_of_mem _ (ih q)
    · have e : i = vs.length := by rw [List.length_cons] at hi; omega
      subst e
      rw [vI_new]; exact List.mem_cons_self ..
/-- Cells that can be read. -/
def VReads (w : World) (A : Option Addr) (X : List Value) : Prop := ∀ k x, X[k]? = some x → ∃ ad, A = some ad ∧ w.cell? (ad.add k) = some x
theorem VReads.kept {w w' : World} {A : Option Addr} {X : List Value} (h : VReads w A X) (hk : Kp w w') : VReads w' A X := by
  intro k x hx
  obtain ⟨ad, rfl, hc⟩ := h k x hx
  exact ⟨ad, rfl, by rw [hk.cell (p := ad.add k) (World.block_lt_of_cell? w _ hc)]; exact hc⟩
theorem row_vreads {w : World} {base : Nat} {e : TypeId} {A : Option Addr} {size m m' cap : Nat} {X : List Value} (h : w.ownsRow base e size (.slice A m cap) m' X) : VReads w A X := by
  rcases h.2 with ⟨hv, hm⟩ | ⟨g, cap', cur, hv, _, hgg, _, _, _, ht⟩
  · intro k x hx
    have := (List.getElem?_eq_some_iff.1 hx).1
    have h1 := h.1
    subst hm
    rw [Nat.zero_mul] at h1
    omega
  · cases hv
    intro k x hx
    refine ⟨_, rfl, ?_⟩
    rw [add_zero_off, Blk.cell (t := e) (cs := cur) hgg]
    exact cur_get ht hx
theorem row_len {w : World} {base : Nat} {e : TypeId} {v : Value} {l : Bs} {vs : List Value} {m : Nat} (h : w.ownsRow base e 3 v m (frX l vs)) : vs.length = m := by
  have := h.1
  rw [frX_length] at this
  omega
/-- A frame of a slice of frames, in the cells that hold it. -/
theorem fr_at {w : World} {A : Option Addr} {l : Bs} {vs : List Value} {i : Nat} {v : Value} (h : VReads w A (frX l vs)) (hi : i < vs.length) (hv : vI vs i = v) : ∃ ad, A = some ad ∧ ∀ j x, ([.int .i64 (pfP (frB l i)), .int .i64 (pfE (frB l i)), v] : List Value)[j]? = some x → w.cell? ((ad.add (i * 3)).add j) = some x := by
  subst hv
  obtain ⟨ad, rfl, _⟩ := h (i * 3 + 0) (.int .i64 (pfP (frB l i))) (frX_get hi 0 _ rfl)
  refine ⟨ad, rfl, fun j x hx => ?_⟩
  obtain ⟨ad', e, hc⟩ := h (i * 3 + j) x (frX_get hi j x hx)
  cases e
  rw [Addr.add_add]; exact hc
theorem any_world {w0 : Base} {L : List Bk} {M : List Rw} {w : World} {p : World → Prop} (h : St w0 L M w) (k : ∀ w1, St w0 L M w1 → p w1) : p w := k w h
theorem kp_trans {w0 w1 w2 : World} (h : Kp w0 w1) (k : Kp w1 w2) : Kp w0 w2 := h.trans (k.mono h.size)
theorem St.permM {w0 : Base} {w : World} {L : List Bk} {M M' : List Rw} (h : St w0 L M w) (p : M.Perm M') : St w0 L M' w := by
  refine ⟨h.kq, h.blk, h.own, h.apart, fun r hr => h.rows r (p.mem_iff.2 hr), fun r hr => h.rb r (p.mem_iff.2 hr), (p.pairwise_iff ?_).1 h.rr⟩
  intro x y q
  rcases q with q | q
  · by_cases z : y.v.ownBlock = none
    · exact .inl z
    · exact .inr (fun e => z (e.trans q))
  · by_cases z : y.v.ownBlock = none
    · exact .inl z
    · exact .inr (fun e => q e.symm)
section
variable {P : Program} {ops : Array Oper} {Q : Exit → Act → World → Prop} {n : Sz} {a : Act} {w0 : Base} {w : World} {F : Fm} {L Ls : List Bk} {M Ms : List Rw} {rest : List Oper}
theorem g_loadXV {ty : TypeId} {x : Operand} {p : Addr} {X : List Value} {v : Value} (hx : evO F x = some (.pointer (some p))) (hr : ∀ j x, X[j]? = some x → w0.w.cell? (p.add j) = some x) (ht : rowType P ty X.length = true) (hv : v = .agg X.toArray) : Gives P F w0 L M (.load ty x) v := fun _ _ w hA hS _ _ _ _ _ => by
  subst hv
  obtain ⟨d, hu, hd, hi⟩ := rowType_spec ht
  have h1 : ∀ j x, X[j]? = some x → w.cell? (p.add j) = some x := fun j x hx => by
    have hc := hr j x hx
    rw [hS.kp.cell (p := p.add j) (World.block_lt_of_cell? w0.w _ hc)]; exact hc
  simp only [execOp, hA.ev hx, Instr.loadAt, Instr.sureAddr, Sem.run_bind, Sem.run_pure, Result.andThen_ok, run_loadVar_list h1 hu hd hi]
end
end Go.Proofs.Ytcijkniijomcjaa
