import Derived.Test.YtnbimpkihpaldaaArgs2
/-! How an argument that is a struct with slices in it is opened. -/
namespace Go.Proofs.Ytnbimpkihpaldaa
open Go.ChangeShapes Go.WideShapes Go.ChangeAt Go.RowKit Go.Deep Go.Cpl
section
variable {H : Type} {enc : TypeId × Value → H} {P : Program} {w : World} {base : Nat} {spare : Nat → Bool} {held : Bool}
/-- The fields of a struct. -/
theorem open_fld {t : TypeId} {fs : Array Field} {cs : Array Value} {d : DataW H} {p : List MemPlace} (ht : P.underlying t = some (.struct fs)) (h : DataW.Trod enc P w base spare held t (.agg cs) d p) :
    cs.size = P.cellsOf t ∧ ∃ n, ∀ (i : Nat) (f : Field), fs[i]? = some f → ∃ x, DataW.trod enc P w base spare held n f.type ((cs.toList.drop f.offset).take (P.cellsOf f.type)) = some x := by
  obtain ⟨fuel, hf⟩ := h
  have hf' : DataW.trod enc P w base spare held fuel t cs.toList = some (d, p) := hf
  obtain ⟨xs, n, _, _, hl, hlen, hx⟩ := DataW.trod_struct ht hf'
  refine ⟨by simpa using hl, n, fun i f hi => ?_⟩
  have hlt : i < fs.size := by
    rcases Nat.lt_or_ge i fs.size with q | q
    · exact q
    · rw [Array.getElem?_eq_none q] at hi; cases hi
  rw [hx i f hi, List.getElem?_eq_getElem (by omega)]
  exact ⟨_, rfl⟩
theorem open_slV {t e : TypeId} {v : Value} {n : Nat} {x : DataW H × List MemPlace} (s k : Nat) (ht : P.underlying t = some (.slice e)) (hc : P.cellsOf e = s) (hs : Nat.blt 0 s = true) (he : allI P k e = true) (h : DataW.trod enc P w base spare held n t [v] = some x) :
    ∃ A len cap, ∃ l : List Int, v = .slice A len cap ∧ l.length = len * s ∧ len ≤ maxLen ∧ IReads w A l ∧ ∀ n ∈ l, In64 n := by
  rcases open_slice ht h with ⟨hcs, _⟩ | ⟨a, ln, c, m, n', D, Pl, hcs, _⟩
  · obtain rfl : v = .slice none 0 0 := by simpa using hcs
    obtain ⟨l, q⟩ := open_slF (A := none) (len := 0) (cap := 0) s k ht hc hs he ⟨n, h⟩
    exact ⟨none, 0, 0, l, rfl, q⟩
  · obtain rfl : v = .slice (some a) ln c := by simpa using hcs
    obtain ⟨l, q⟩ := open_slF (A := some a) (len := ln) (cap := c) s k ht hc hs he ⟨n, h⟩
    exact ⟨some a, ln, c, l, rfl, q⟩
end
theorem varr2 {cs : Array Value} (h : cs.size = 2) : ∃ c0 c1, cs = #[c0, c1] := by
  match cs, h with
  | ⟨[c0, c1]⟩, _ => exact ⟨c0, c1, rfl⟩
theorem varr3 {cs : Array Value} (h : cs.size = 3) : ∃ c0 c1 c2, cs = #[c0, c1, c2] := by
  match cs, h with
  | ⟨[c0, c1, c2]⟩, _ => exact ⟨c0, c1, c2, rfl⟩
theorem varr4 {cs : Array Value} (h : cs.size = 4) : ∃ c0 c1 c2 c3, cs = #[c0, c1, c2, c3] := by
  match cs, h with
  | ⟨[c0, c1, c2, c3]⟩, _ => exact ⟨c0, c1, c2, c3, rfl⟩
theorem varr5 {cs : Array Value} (h : cs.size = 5) : ∃ c0 c1 c2 c3 c4, cs = #[c0, c1, c2, c3, c4] := by
  match cs, h with
  | ⟨[c0, c1, c2, c3, c4]⟩, _ => exact ⟨c0, c1, c2, c3, c4, rfl⟩
theorem varr6 {cs : Array Value} (h : cs.size = 6) : ∃ c0 c1 c2 c3 c4 c5, cs = #[c0, c1, c2, c3, c4, c5] := by
  match cs, h with
  | ⟨[c0, c1, c2, c3, c4, c5]⟩, _ => exact ⟨c0, c1, c2, c3, c4, c5, rfl⟩
theorem varr7 {cs : Array Value} (h : cs.size = 7) : ∃ c0 c1 c2 c3 c4 c5 c6, cs = #[c0, c1, c2, c3, c4, c5, c6] := by
  match cs, h with
  | ⟨[c0, c1, c2, c3, c4, c5, c6]⟩, _ => exact ⟨c0, c1, c2, c3, c4, c5, c6, rfl⟩
theorem varr8 {cs : Array Value} (h : cs.size = 8) : ∃ c0 c1 c2 c3 c4 c5 c6 c7, cs = #[c0, c1, c2, c3, c4, c5, c6, c7] := by
  match cs, h with
  | ⟨[c0, c1, c2, c3, c4, c5, c6, c7]⟩, _ => exact ⟨c0, c1, c2, c3, c4, c5, c6, c7, rfl⟩
theorem rowI1 {c : Value} {x : Int} (h : [c] = rowI [x]) : c = .int .i64 x := by simpa [rowI] using h
theorem rowI2 {c0 c1 : Value} {x y : Int} (h : [c0, c1] = rowI [x, y]) : c0 = .int .i64 x ∧ c1 = .int .i64 y := by simpa [rowI] using h
theorem rowI4 {c0 c1 c2 c3 : Value} {x y z u : Int} (h : [c0, c1, c2, c3] = rowI [x, y, z, u]) : c0 = .int .i64 x ∧ c1 = .int .i64 y ∧ c2 = .int .i64 z ∧ c3 = .int .i64 u := by simpa [rowI] using h
end Go.Proofs.Ytnbimpkihpaldaa
