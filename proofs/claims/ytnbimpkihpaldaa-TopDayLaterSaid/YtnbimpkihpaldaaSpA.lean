import Derived.Test.YtnbimpkihpaldaaArgs3
import Derived.Test.YtnbimpkihpaldaaLt
/-! How a slice of steps is opened. -/
namespace Go.Proofs.Ytnbimpkihpaldaa
open Go.ChangeShapes Go.WideShapes Go.ChangeAt Go.RowKit Go.Deep Go.Cpl
instance : Inhabited Sp := ⟨⟨[], 0, 0, []⟩⟩
section
variable {H : Type} {enc : TypeId × Value → H} {w : World} {base : Nat} {spare : Nat → Bool} {held : Bool}
theorem trod_str {P : Program} {t : TypeId} {n : Nat} {v : Value} {x : DataW H × List MemPlace} (ht : P.underlying t = some .string) (h : DataW.trod enc P w base spare held n t [v] = some x) : ∃ l : List UInt8, v = .string ⟨l.toArray⟩ ∧ l.length ≤ maxLen := by
  cases n with
  | zero => cases h
  | succ n =>
    unfold DataW.trod at h
    rw [ht] at h
    cases v with
    | string s =>
      dsimp only at h
      split at h
      · rename_i hs
        refine ⟨s.data.toList, rfl, ?_⟩
        rw [Array.length_toList]; exact hs
      · cases h
    | _ => cases h
theorem trod_cap {t e : TypeId} {P : Program} {A : Option Addr} {len cap : Nat} {d : DataW H} {p : List MemPlace} (ht : P.underlying t = some (.slice e)) (h : DataW.Trod enc P w base spare held t (.slice A len cap) d p) : len ≤ cap := by
  obtain ⟨n, h⟩ := h
  rcases open_slice ht h with ⟨hcs, _⟩ | ⟨a, ln, c, m, n', D, Pl, hcs, _, hl, _⟩
  · simp [Value.cells] at hcs
    obtain ⟨rfl, rfl, rfl⟩ := hcs
    exact Nat.le_refl _
  · simp [Value.cells] at hcs
    obtain ⟨rfl, rfl, rfl⟩ := hcs
    exact hl
set_option maxRecDepth 100000 in
theorem open_step {n : Nat} {cs : List Value} {x : DataW H × List MemPlace} (h : DataW.trod enc Try.prog w base spare held n 59 cs = some x) : ∃ (s : Sp) (B : Option Addr) (c : Nat), cs = spC s B c ∧ IReads w B s.ne ∧ s.nm.length ≤ maxLen ∧ s.ne.length ≤ maxLen := by
  have hT : DataW.Trod enc Try.prog w base spare held 59 (.agg cs.toArray) x.1 x.2 := ⟨n, h⟩
  obtain ⟨hs0, nn0, hf0⟩ := open_fld Try.underlying59 hT
  obtain ⟨c0, c1, c2, c3, e4⟩ := varr4 (hs0.trans (show Try.prog.cellsOf 59 = 4 by kernel_rfl))
  obtain rfl : cs = [c0, c1, c2, c3] := by have := congrArg Array.toList e4; simpa using this
  obtain ⟨x0, hx0⟩ := hf0 0 _ rfl
  have hy0 : DataW.trod enc Try.prog w base spare held nn0 9 [c0] = some x0 := hx0
  obtain ⟨nm, rfl, hnm⟩ := trod_str Try.underlying9 hy0
  obtain ⟨x1, hx1⟩ := hf0 1 _ rfl
  have hy1 : DataW.trod enc Try.prog w base spare held nn0 3 [c1] = some x1 := hx1
  obtain ⟨L1, e1, hn1, hb1⟩ := trod_allI 5 3 (by kernel_rfl) _ _ _ hy1
  obtain ⟨la, rfl⟩ := list1 (hn1.trans (show Try.prog.cellsOf 3 = 1 by kernel_rfl))
  obtain rfl := rowI1 e1
  obtain ⟨x2, hx2⟩ := hf0 2 _ rfl
  have hy2 : DataW.trod enc Try.prog w base spare held nn0 3 [c2] = some x2 := hx2
  obtain ⟨L2, e2, hn2, hb2⟩ := trod_allI 5 3 (by kernel_rfl) _ _ _ hy2
  obtain ⟨wa, rfl⟩ := list1 (hn2.trans (show Try.prog.cellsOf 3 = 1 by kernel_rfl))
  obtain rfl := rowI1 e2
  obtain ⟨x3, hx3⟩ := hf0 3 _ rfl
  have hy3 : DataW.trod enc Try.prog w base spare held nn0 56 [c3] = some x3 := hx3
  obtain ⟨B, sn, c, ne, rfl, hns, hms, hrs, hbs⟩ := open_slV 1 3 Try.underlying56 (by kernel_rfl) (by kernel_rfl) (by kernel_rfl) hy3
  obtain rfl : ne.length = sn := by omega
  exact ⟨⟨nm, la, wa, ne⟩, B, c, rfl, hrs, hnm, hms⟩
theorem open_steps {A : Option Addr} {len cap : Nat} {d : DataW H} {p : List MemPlace} (h : DataW.Trod enc Try.prog w base spare held 22 (.slice A len cap) d p) : ∃ ss : List Sp, ss.length = len ∧ len ≤ maxLen ∧ SpReads w A ss := by
  obtain ⟨fuel, hf⟩ := h
  rcases open_slice Try.underlying22 hf with ⟨hcs, _⟩ | ⟨a, ln, c, m, n, D, Pl, hcs, _, hl, hm, hmm, _, hi⟩
  · simp [Value.cells] at hcs
    obtain ⟨rfl, rfl, rfl⟩ := hcs
    exact ⟨[], rfl, Nat.zero_le _, fun k hk => absurd hk (Nat.not_lt_zero _)⟩
  · simp [Value.cells] at hcs
    obtain ⟨rfl, rfl, rfl⟩ := hcs
    have hlm : len ≤ m := by rw [hmm]; split <;> omega
    have hc4 : Try.prog.cellsOf 59 = 4 := by kernel_rfl
    obtain ⟨f, hf'⟩ := choose_lt (α := Sp) (p := fun i s => ∃ (B : Option Addr) (c : Nat), SpAt w a s i B c) (n := len) (fun i hi' => by
      obtain ⟨cs', h1, h2⟩ := hi i (by omega)
      obtain ⟨s, B, c, rfl, hr, hn, hm'⟩ := open_step h2
      obtain ⟨_, _, hcell⟩ := World.cells?_some h1
      refine ⟨s, B, c, ⟨fun j x hx => ?_, hr, by unfold maxLen at hn; omega, by unfold maxLen at hm'; omega⟩⟩
      have hj : j < 4 := by have := (List.getElem?_eq_some_iff.1 hx).1; simpa [spC] using this
      have hq := hcell j (by rw [hc4]; exact hj)
      rw [hc4, hx] at hq
      exact hq)
    refine ⟨(List.range len).map f, by simp, by omega, fun k hk => ?_⟩
    have hk2 : k < len := by simpa using hk
    have e : spK ((List.range len).map f) k = f k := by simp [spK, List.getD_eq_getElem?_getD, List.getElem?_range hk2]
    obtain ⟨B, c, s⟩ := hf' k hk2
    exact ⟨a, B, c, rfl, by rw [e]; exact s⟩
end
end Go.Proofs.Ytnbimpkihpaldaa
