/- How the laws' arguments are opened: slices of floats and of ints. -/
import Derived.Test.YtcijkniijomcjaaRows
import Derived.Test.YtcijkniijomcjaaNums
import Derived.WalkKit
import Derived.ProofKit
import Derived.OpenShut
import Derived.ShutString
import Derived.ChangeOld
import Derived.Below
import Derived.Deep.Slices
namespace Go.Proofs.Ytcijkniijomcjaa
open Go.ChangeShapes Go.WideShapes Go.ChangeAt Go.RowKit Go.Deep Go.Cpl

theorem own : ownKnob Try.prog.godebug = none := by kernel_rfl
theorem laidOut : laidOutB Try.prog = true := by kernel_rfl

section
variable {H : Type} {enc : TypeId × Value → H} {w : World} {base : Nat} {spare : Nat → Bool} {held : Bool}

theorem trod_f32 {fuel : Nat} {v : Value} {y : DataW H × List MemPlace} (h : DataW.trod enc Try.prog w base spare held fuel 36 [v] = some y) : ∃ b, v = .float .f32 b := by
  cases fuel with
  | zero => simp [DataW.trod] at h
  | succ n =>
    simp only [DataW.trod, Try.underlying36] at h
    cases v <;> simp at h
    rename_i k b
    exact ⟨b, by rw [h.1.1]⟩

theorem open_floats {fuel : Nat} {A : Option Addr} {len cap : Nat} {x : DataW H × List MemPlace} (h : DataW.trod enc Try.prog w base spare held fuel 23 [.slice A len cap] = some x) :
    ∃ xs : List Nat, xs.length = len ∧ len ≤ maxLen ∧ FReads w A xs := by
  rcases open_slice1 Try.underlying23 (by kernel_rfl) h with ⟨hcs, _⟩ | ⟨a, l, c, m, n, V, D, Pl, hcs, _, hl, hm, hmm, _, hi⟩
  · simp at hcs
    obtain ⟨rfl, rfl, rfl⟩ := hcs
    exact ⟨[], rfl, Nat.zero_le _, fun k hk => absurd hk (by simp)⟩
  · simp at hcs
    obtain ⟨rfl, rfl, rfl⟩ := hcs
    have hlm : len ≤ m := by rw [hmm]; split <;> omega
    obtain ⟨f, hf⟩ := choose_lt (α := Nat) (p := fun i b => w.cell? (a.add i) = some (.float .f32 b)) (n := len) (fun i hi' => by
      obtain ⟨h1, h2⟩ := hi i (by omega)
      obtain ⟨b, hb⟩ := trod_f32 h2
      exact ⟨b, by rw [h1, hb]⟩)
    refine ⟨(List.range len).map f, by simp, by omega, fun k hk => ⟨a, rfl, ?_⟩⟩
    have hk' : k < len := by simpa using hk
    rw [nth_eq hk, hf k hk']
    simp
end
end Go.Proofs.Ytcijkniijomcjaa
