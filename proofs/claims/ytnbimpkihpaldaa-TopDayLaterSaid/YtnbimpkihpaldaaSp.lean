import Derived.Test.YtnbimpkihpaldaaMx
import Derived.Test.YtnbimpkihpaldaaDay
import Derived.Laws.Append
/-! Steps that can be read; what became of steps, as a slice of the call's own. -/
namespace Go.Proofs.Ytnbimpkihpaldaa
open Go.RowKit Go.Cpl
/-- The cells of a step. -/
def spC (s : Sp) (B : Option Addr) (c : Nat) : List Value := [.string ⟨s.nm.toArray⟩, .int .i64 s.la, .int .i64 s.wa, .slice B s.ne.length c]
structure SpAt (w : World) (ad : Addr) (s : Sp) (k : Nat) (B : Option Addr) (c : Nat) : Prop where
  cell : ∀ j x, (spC s B c)[j]? = some x → w.cell? ((ad.add (k * 4)).add j) = some x
  rd : IReads w B s.ne
  hn : s.nm.length ≤ 9223372036854775807
  hm : s.ne.length ≤ 9223372036854775807
def SpReads (w : World) (A : Option Addr) (ss : List Sp) : Prop := ∀ k, k < ss.length → ∃ ad B c, A = some ad ∧ SpAt w ad (spK ss k) k B c
theorem SpReads.kept {w w' : World} {A : Option Addr} {ss : List Sp} (h : SpReads w A ss) (hk : Kp w w') : SpReads w' A ss := by
  intro k q
  obtain ⟨ad, B, c, e, h⟩ := h k q
  exact ⟨ad, B, c, e, ⟨fun j x hx => by
    have hc := h.cell j x hx
    rw [hk.cell (p := (ad.add (k * 4)).add j) (World.block_lt_of_cell? w _ hc)]; exact hc, h.rd.kept hk, h.hn, h.hm⟩⟩
theorem sp_cell {w : World} {ad : Addr} {s : Sp} {k o j : Nat} {B : Option Addr} {c : Nat} {x : Value} (h : SpAt w ad s k B c) (ho : o = k * 4 + j) (hx : (spC s B c)[j]? = some x) : w.cell? (ad.add o) = some x := by
  subst ho
  rw [← Addr.add_add]; exact h.cell j x hx
theorem ix_xsB {P : Program} {t : TypeId} {A : Option Addr} {ad : Addr} {m c e size : Nat} {bytes : Nat} {i : Int} (k : Nat) (he : elemInfo P t = some (e, size, bytes)) (hi : i = (k : Int)) (hk : k < m) (hA : A = some ad) (w : World) : (Instr.indexAt t (.slice A m c) (.int .i64 i)).run P w = .ok (.pointer (some (ad.add (k * size)))) w := by
  subst hA; exact ix_xs k he hi hk w
/-- The cells of what became of steps. -/
def lsC (b : Ls) : List Value := [.bool b.dn, .bool b.kp, .int .i64 b.mi, .int .i64 b.wa]
def lsX (n : Nat) (b : Nat → Ls) : List Value := (List.range n).flatMap fun i => lsC (b i)
theorem lsX_succ (n : Nat) (b : Nat → Ls) : lsX (n + 1) b = lsX n b ++ lsC (b n) := by simp [lsX, List.range_succ]
theorem lsX_length (n : Nat) (b : Nat → Ls) : (lsX n b).length = n * 4 := by
  induction n with
  | zero => rfl
  | succ n ih => rw [lsX_succ, List.length_append, ih]; simp [lsC]; omega
theorem lsX_get {n : Nat} {b : Nat → Ls} {k : Nat} (hk : k < n) : ∀ j x, (lsC (b k))[j]? = some x → (lsX n b)[k * 4 + j]? = some x := by
  induction n with
  | zero => exact absurd hk (Nat.not_lt_zero _)
  | succ n ih =>
    intro j x hx
    have hj : j < 4 := by have := (List.getElem?_eq_some_iff.1 hx).1; simpa [lsC] using this
    rw [lsX_succ]
    rcases Nat.lt_or_ge k n with q | q
    · rw [List.getElem?_append_left (by rw [lsX_length]; omega)]
      exact ih q j x hx
    · obtain rfl : k = n := by omega
      rw [List.getElem?_append_right (by rw [lsX_length]; omega), lsX_length, Nat.add_sub_cancel_left]
      exact hx
theorem lsX_congr {n : Nat} {b b' : Nat → Ls} (h : ∀ i, i < n → b i = b' i) : lsX n b = lsX n b' := by
  induction n with
  | zero => rfl
  | succ n ih => rw [lsX_succ, lsX_succ, ih fun i hi => h i (by omega), h n (by omega)]
def setF (b : Nat → Ls) (k : Nat) (x : Ls) : Nat → Ls := fun i => if i = k then x else b i
theorem lsX_put {n : Nat} {b : Nat → Ls} {k : Nat} (x : Ls) (hk : k < n) : putL (lsX n b) (k * 4) (lsC x) = lsX n (setF b k x) := by
  induction n with
  | zero => exact absurd hk (Nat.not_lt_zero _)
  | succ n ih =>
    rw [lsX_succ, lsX_succ]
    have hl := lsX_length n b
    rcases Nat.lt_or_ge k n with q | q
    · rw [← ih q, show setF b k x n = b n from if_neg (by omega)]
      unfold putL
      rw [List.take_append_of_le_length (by omega), List.drop_append_of_le_length (by simp [lsC]; omega)]
      simp
    · obtain rfl : k = n := by omega
      rw [show setF b k x k = x from if_pos rfl, ← lsX_congr (b := b) (b' := setF b k x) (fun i hi => (if_neg (by omega)).symm)]
      unfold putL
      rw [List.take_append_of_le_length (by omega), List.take_of_length_le (by omega), List.drop_of_length_le (by simp [lsC]; omega)]
      simp
theorem putL_in {α : Type} {l ys : List α} {o i : Nat} {zs : List α} (h : o + zs.length ≤ l.length) (hz : (l.drop o).take zs.length = zs) (hi : i + ys.length ≤ zs.length) : putL l (o + i) ys = putL l o (putL zs i ys) := by
  obtain ⟨u, v, rfl, rfl⟩ : ∃ u v, l = u ++ (zs ++ v) ∧ o = u.length := ⟨l.take o, l.drop (o + zs.length), by
    have h1 : l = l.take o ++ l.drop o := (List.take_append_drop o l).symm
    have h2 : l.drop o = (l.drop o).take zs.length ++ (l.drop o).drop zs.length := (List.take_append_drop _ _).symm
    rw [hz, List.drop_drop] at h2
    rw [← h2]; exact h1, by simp; omega⟩
  have e1 : (putL zs i ys).length = zs.length := putL_length hi
  unfold putL at e1 ⊢
  rw [List.take_append, List.take_of_length_le (by omega), Nat.add_sub_cancel_left, List.take_append_of_le_length (by omega)]
  rw [e1]
  have e2 : (u ++ (zs ++ v)).drop (u.length + i + ys.length) = zs.drop (i + ys.length) ++ v := by
    rw [List.drop_append, List.drop_of_length_le (by omega), List.nil_append, show u.length + i + ys.length - u.length = i + ys.length by omega, List.drop_append_of_le_length hi]
  have e3 : (u ++ (zs ++ v)).drop (u.length + zs.length) = v := by
    rw [List.drop_append, List.drop_of_length_le (by omega), List.nil_append, Nat.add_sub_cancel_left, List.drop_append_of_le_length (Nat.le_refl _), List.drop_length, List.nil_append]
  rw [e2, e3, List.take_append_of_le_length (Nat.le_refl _), List.take_length]
  simp
theorem lsX_at {n : Nat} {b : Nat → Ls} {k : Nat} (hk : k < n) : ((lsX n b).drop (k * 4)).take 4 = lsC (b k) := by
  apply List.ext_getElem?
  intro j
  rcases Nat.lt_or_ge j 4 with q | q
  · rw [List.getElem?_take, if_pos q, List.getElem?_drop]
    have hj : j < (lsC (b k)).length := by simpa [lsC] using q
    rw [List.getElem?_eq_getElem hj]
    exact lsX_get hk j _ (List.getElem?_eq_getElem hj)
  · rw [List.getElem?_eq_none (by simp; omega), List.getElem?_eq_none (by simpa [lsC] using q)]
/-- One field of what became of a step. -/
theorem lsX_kp {n : Nat} {b : Nat → Ls} {k : Nat} (v : Bool) (hk : k < n) : putL (lsX n b) (k * 4 + 1) [.bool v] = lsX n (setF b k ⟨(b k).dn, v, (b k).mi, (b k).wa⟩) := by
  have hl := lsX_length n b
  rw [putL_in (zs := lsC (b k)) (by simp [lsC]; omega) (lsX_at hk) (by simp [lsC]), ← lsX_put _ hk]
  rfl
section
variable {P : Program} {ops : Array Oper} {Q : Exit → Act → World → Prop} {n : Sz} {a : Act} {w0 : Base} {w : World} {F : Fm} {L Ls' : List Bk} {M Ms : List Rw} {rest : List Oper}
/-- Loads out of a slice of the call's own. -/
theorem g_loadRV {ty e : TypeId} {x : Operand} {ad : Addr} {size m m' cap off : Nat} {xs us : List Value} {v : Value} (j : Nat) (hx : evO F x = some (.pointer (some (ad.add off)))) (hj : M[j]? = some ⟨.slice (some ad) m cap, e, size, m', xs⟩) (hu : ∀ q y, us[q]? = some y → xs[off + q]? = some y) (ht : rowType P ty us.length = true) (hv : v = .agg us.toArray) : Gives P F w0 L M (.load ty x) v := fun _ _ w hA hS _ _ _ _ _ => by
  subst hv
  obtain ⟨d, hu', hd, hi⟩ := rowType_spec ht
  have hr := row_vreads (hS.row j hj)
  have h1 : ∀ j y, us[j]? = some y → w.cell? ((ad.add off).add j) = some y := fun j y hy => by
    obtain ⟨ad', e', hc⟩ := hr (off + j) y (hu j y hy)
    cases e'
    rw [Addr.add_add]; exact hc
  simp only [execOp, hA.ev hx, Instr.loadAt, Instr.sureAddr, Sem.run_bind, Sem.run_pure, Result.andThen_ok, run_loadVar_list h1 hu' hd hi]
theorem g_loadR1 {ty e : TypeId} {x : Operand} {ad : Addr} {size m m' cap off : Nat} {xs : List Value} {v : Value} (j : Nat) (hx : evO F x = some (.pointer (some (ad.add off)))) (hj : M[j]? = some ⟨.slice (some ad) m cap, e, size, m', xs⟩) (hu : xs[off]? = some v) (hs : scalar P ty = true) : Gives P F w0 L M (.load ty x) v := fun n a w hA hS d t' pos aft gd => by
  have hr := row_vreads (hS.row j hj)
  obtain ⟨ad', e', hc⟩ := hr off v hu
  cases e'
  exact g_loadX (w0 := (w : Base)) (L := []) (M := []) hx hc hs n a w hA (St.start w) d t' pos aft gd
end
end Go.Proofs.Ytnbimpkihpaldaa
