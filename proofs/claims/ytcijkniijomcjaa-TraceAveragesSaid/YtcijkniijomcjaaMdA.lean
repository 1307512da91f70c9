import Derived.Test.YtcijkniijomcjaaArgsF
import Derived.Test.YtcijkniijomcjaaMd
/-! How a slice of matrices that are made is opened. -/
namespace Go.Proofs.Ytcijkniijomcjaa
open Go.ChangeShapes Go.WideShapes Go.ChangeAt Go.RowKit Go.Deep Go.Cpl
instance : Inhabited Md := ⟨⟨0, none, 0, 0, [], none, 0, 0, [], 0⟩⟩
theorem mdX_length (ds : List Md) : (mdX ds).length = ds.length * 4 := by
  induction ds with
  | nil => rfl
  | cons m ms ih => simp only [mdX, List.flatMap_cons, List.length_append, List.length_cons] at ih ⊢; rw [ih]; simp [mdC]; omega
theorem md_reads {w : World} {a : Addr} {ds : List Md} (h : ∀ i, i < ds.length → MdOk w (mdK ds i) ∧ ∀ j x, (mdC (mdK ds i))[j]? = some x → w.cell? ((a.add (i * 4)).add j) = some x) : MdReads w (some a) ds := by
  refine ⟨fun k x hx => ⟨a, rfl, ?_⟩, fun k hk => (h k hk).1⟩
  have hk := (List.getElem?_eq_some_iff.1 hx).1
  rw [mdX_length] at hk
  have hi : k / 4 < ds.length := by omega
  obtain ⟨y, hy⟩ : ∃ y, (mdC (mdK ds (k / 4)))[k % 4]? = some y := ⟨_, List.getElem?_eq_getElem (show k % 4 < (mdC (mdK ds (k / 4))).length by simp [mdC]; omega)⟩
  have h1 := mdX_get hi _ _ hy
  have h2 := (h (k / 4) hi).2 _ _ hy
  rw [show k / 4 * 4 + k % 4 = k by omega] at h1
  rw [Addr.add_add, show k / 4 * 4 + k % 4 = k by omega] at h2
  rw [hx] at h1
  cases h1
  exact h2
section
variable {H : Type} {enc : TypeId × Value → H} {w : World} {base : Nat} {spare : Nat → Bool} {held : Bool}
set_option maxRecDepth 100000 in
theorem open_made {n : Nat} {cs : List Value} {x : DataW H × List MemPlace} (h : DataW.trod enc Try.prog w base spare held n 25 cs = some x) : ∃ m : Md, cs = mdC m ∧ MdOk w m := by
  have hT : DataW.Trod enc Try.prog w base spare held 25 (.agg cs.toArray) x.1 x.2 := ⟨n, h⟩
  obtain ⟨hs0, nn0, hf0⟩ := open_fld Try.underlying25 hT
  obtain ⟨c0, c1, c2, c3, e4⟩ := varr4 (hs0.trans (show Try.prog.cellsOf 25 = 4 by kernel_rfl))
  obtain rfl : cs = [c0, c1, c2, c3] := by have := congrArg Array.toList e4; simpa using this
  obtain ⟨x0, hx0⟩ := hf0 0 _ rfl
  have hy0 : DataW.trod enc Try.prog w base spare held nn0 3 [c0] = some x0 := hx0
  obtain ⟨L0, e0, hn0, hb0⟩ := trod_allI 5 3 (by kernel_rfl) _ _ _ hy0
  obtain ⟨el, rfl⟩ := list1 (hn0.trans (show Try.prog.cellsOf 3 = 1 by kernel_rfl))
  obtain rfl := rowI1 e0
  obtain ⟨x1, hx1⟩ := hf0 1 _ rfl
  have hy1 : DataW.trod enc Try.prog w base spare held nn0 22 [c1] = some x1 := hx1
  obtain ⟨SA, sn, scap, sl, rfl, hns, hms, hrs, hbs⟩ := open_slV 2 3 Try.underlying22 (by kernel_rfl) (by kernel_rfl) (by kernel_rfl) hy1
  obtain ⟨x2, hx2⟩ := hf0 2 _ rfl
  have hy2 : DataW.trod enc Try.prog w base spare held nn0 23 [c2] = some x2 := hx2
  obtain ⟨RA, rn, rcap, rl, rfl, hnf, hmf, hrf⟩ := open_flV hy2
  obtain ⟨x3, hx3⟩ := hf0 3 _ rfl
  have hy3 : DataW.trod enc Try.prog w base spare held nn0 3 [c3] = some x3 := hx3
  obtain ⟨L3, e3, hn3, hb3⟩ := trod_allI 5 3 (by kernel_rfl) _ _ _ hy3
  obtain ⟨mo, rfl⟩ := list1 (hn3.trans (show Try.prog.cellsOf 3 = 1 by kernel_rfl))
  obtain rfl := rowI1 e3
  have h9 := hb0 el (by simp)
  unfold In64 at h9
  exact ⟨⟨el, SA, sn, scap, sl, RA, rn, rcap, rl, mo⟩, rfl, ⟨hns, hrs, hnf, hrf, by simp only; omega, by simp only; omega⟩⟩
theorem open_mades {A : Option Addr} {len cap : Nat} {d : DataW H} {p : List MemPlace} (h : DataW.Trod enc Try.prog w base spare held 56 (.slice A len cap) d p) : ∃ ds : List Md, ds.length = len ∧ len ≤ maxLen ∧ MdReads w A ds := by
  obtain ⟨fuel, hf⟩ := h
  rcases open_slice Try.underlying56 hf with ⟨hcs, _⟩ | ⟨a, ln, c, m, n, D, Pl, hcs, _, hl, hm, hmm, _, hi⟩
  · simp [Value.cells] at hcs
    obtain ⟨rfl, rfl, rfl⟩ := hcs
    exact ⟨[], rfl, Nat.zero_le _, ⟨fun k x hx => by simp [mdX] at hx, fun k hk => absurd hk (Nat.not_lt_zero _)⟩⟩
  · simp [Value.cells] at hcs
    obtain ⟨rfl, rfl, rfl⟩ := hcs
    have hlm : len ≤ m := by rw [hmm]; split <;> omega
    have hc4 : Try.prog.cellsOf 25 = 4 := by kernel_rfl
    obtain ⟨f, hf'⟩ := choose_lt (α := Md) (p := fun i b => MdOk w b ∧ ∀ j x, (mdC b)[j]? = some x → w.cell? ((a.add (i * 4)).add j) = some x) (n := len) (fun i hi' => by
      obtain ⟨cs', h1, h2⟩ := hi i (by omega)
      obtain ⟨b, rfl, hb⟩ := open_made h2
      obtain ⟨_, _, hcell⟩ := World.cells?_some h1
      refine ⟨b, hb, fun j x hx => ?_⟩
      have hj : j < 4 := by have := (List.getElem?_eq_some_iff.1 hx).1; simpa [mdC] using this
      have hq := hcell j (by rw [hc4]; exact hj)
      rw [hc4, hx] at hq
      exact hq)
    refine ⟨(List.range len).map f, by simp, by omega, md_reads fun i hi => ?_⟩
    have hi2 : i < len := by simpa using hi
    have e : mdK ((List.range len).map f) i = f i := by simp [mdK, List.getD_eq_getElem?_getD, List.getElem?_range hi2]
    rw [e]
    exact hf' i hi2
end
end Go.Proofs.Ytcijkniijomcjaa
