import Derived.Test.YtnbimpkihpaldaaArgs
import Derived.Test.YtnbimpkihpaldaaFlat
/-! How an argument that is a slice of structs of ints is opened. -/
namespace Go.Proofs.Ytnbimpkihpaldaa
open Go.ChangeShapes Go.WideShapes Go.ChangeAt Go.RowKit Go.Deep Go.Cpl
section
variable {H : Type} {enc : TypeId × Value → H} {P : Program} {w : World} {base : Nat} {spare : Nat → Bool} {held : Bool}
theorem open_slF {t e : TypeId} {A : Option Addr} {len cap : Nat} {d : DataW H} {p : List MemPlace} (s k : Nat) (ht : P.underlying t = some (.slice e)) (hc : P.cellsOf e = s) (hs : Nat.blt 0 s = true) (he : allI P k e = true) (h : DataW.Trod enc P w base spare held t (.slice A len cap) d p) :
    ∃ l : List Int, l.length = len * s ∧ len ≤ maxLen ∧ IReads w A l ∧ ∀ n ∈ l, In64 n := by
  obtain ⟨fuel, hf⟩ := h
  have hs' := blt_lt hs
  rcases open_slice ht hf with ⟨hcs, _⟩ | ⟨a, ln, c, m, n, D, Pl, hcs, _, hl, hm, hmm, _, hi⟩
  · simp [Value.cells] at hcs
    obtain ⟨rfl, rfl, rfl⟩ := hcs
    exact ⟨[], by simp, Nat.zero_le _, fun k hk => absurd hk (by simp), fun n hn => by cases hn⟩
  · simp [Value.cells] at hcs
    obtain ⟨rfl, rfl, rfl⟩ := hcs
    have hlm : len ≤ m := by rw [hmm]; split <;> omega
    obtain ⟨f, hf'⟩ := choose_lt (α := Int) (p := fun i b => w.cell? (a.add i) = some (.int .i64 b) ∧ In64 b) (n := len * s) (fun i hi' => by
      have hq : i / s < len := Nat.div_lt_of_lt_mul (by rw [Nat.mul_comm]; exact hi')
      have hr : i % s < s := Nat.mod_lt _ hs'
      obtain ⟨cs', h1, h2⟩ := hi (i / s) (by omega)
      obtain ⟨l, e1, nl, wl⟩ := trod_allI k e he n _ _ h2
      obtain ⟨_, _, hcell⟩ := World.cells?_some h1
      have hx := hcell (i % s) (by rw [hc]; exact hr)
      rw [Addr.add_add, hc, show i / s * s + i % s = i by rw [Nat.mul_comm]; exact Nat.div_add_mod i s] at hx
      have hrl : i % s < l.length := by rw [nl, hc]; exact hr
      refine ⟨l[i % s], ?_, wl _ (List.getElem_mem hrl)⟩
      rw [hx, e1]
      simp [rowI, hrl])
    refine ⟨(List.range (len * s)).map f, by simp, by omega, fun k hk => ⟨a, rfl, ?_⟩, fun n hn => ?_⟩
    · have hk' : k < len * s := by simpa using hk
      rw [nthI_eq hk, (hf' k hk').1]
      simp
    · simp only [List.mem_map, List.mem_range] at hn
      obtain ⟨i, hi', rfl⟩ := hn
      exact (hf' i hi').2
end
end Go.Proofs.Ytnbimpkihpaldaa
