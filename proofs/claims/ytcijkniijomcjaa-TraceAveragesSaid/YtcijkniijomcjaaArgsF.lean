import Derived.Test.YtcijkniijomcjaaOpen
import Derived.Test.YtcijkniijomcjaaArgs3
/-! How a slice of floats in a struct is opened. -/
namespace Go.Proofs.Ytcijkniijomcjaa
open Go.ChangeShapes Go.WideShapes Go.ChangeAt Go.RowKit Go.Deep Go.Cpl
theorem open_flV {H : Type} {enc : TypeId × Value → H} {w : World} {base : Nat} {spare : Nat → Bool} {held : Bool} {v : Value} {n : Nat} {x : DataW H × List MemPlace} (h : DataW.trod enc Try.prog w base spare held n 23 [v] = some x) :
    ∃ A len cap, ∃ xs : List Nat, v = .slice A len cap ∧ xs.length = len ∧ len ≤ maxLen ∧ FReads w A xs := by
  rcases open_slice Try.underlying23 h with ⟨hcs, _⟩ | ⟨a, ln, c, m, n', D, Pl, hcs, _⟩
  · obtain rfl : v = .slice none 0 0 := by simpa using hcs
    obtain ⟨l, q⟩ := open_floats h
    exact ⟨none, 0, 0, l, rfl, q⟩
  · obtain rfl : v = .slice (some a) ln c := by simpa using hcs
    obtain ⟨l, q⟩ := open_floats h
    exact ⟨some a, ln, c, l, rfl, q⟩
end Go.Proofs.Ytcijkniijomcjaa
