/- How the laws' arguments are opened: ints, structs and arrays of ints, slices of ints. -/
import Derived.Test.YtnbimpkihpaldaaRows
import Derived.Test.YtnbimpkihpaldaaArr
import Derived.WalkKit
import Derived.ProofKit
import Derived.OpenShut
import Derived.ShutString
import Derived.ChangeOld
import Derived.Below
import Derived.Deep.Slices
import Derived.JoinedOf
namespace Go.Proofs.Ytnbimpkihpaldaa
open Go.ChangeShapes Go.WideShapes Go.ChangeAt Go.RowKit Go.Deep Go.Cpl

theorem own_ : ownKnob Try.prog.godebug = none := by kernel_rfl
theorem laidOut_ : laidOutB Try.prog = true := by kernel_rfl
theorem and_in {a b : Bool} (ha : a = true) (hb : b = true) : (a && b) = true := by rw [ha, hb]; rfl

/-- An int of 64 bits. -/
def In64 (n : Int) : Prop := -9223372036854775808 ≤ n ∧ n ≤ 9223372036854775807

section
variable {H : Type} {enc : TypeId × Value → H} {P : Program} {w : World} {base : Nat} {spare : Nat → Bool} {held : Bool}

def fldI (P : Program) (r : TypeId → Bool) : List Field → Nat → Nat → Bool
  | [], off, tot => Nat.beq off tot
  | f :: fs, off, tot => Nat.beq f.offset off && (r f.type && fldI P r fs (off + P.cellsOf f.type) tot)
/-- A type all of whose cells are ints. -/
def allI (P : Program) : Nat → TypeId → Bool
  | 0, _ => false
  | d + 1, t =>
    match P.underlying t with
    | some (.int .i64) => Nat.beq (P.cellsOf t) 1
    | some (.struct fs) => fldI P (allI P d) fs.toList 0 (P.cellsOf t)
    | some (.array m e) => allI P d e && Nat.beq (m * P.cellsOf e) (P.cellsOf t)
    | _ => false

def IsI (P : Program) (t : TypeId) (cs : List Value) : Prop := ∃ l : List Int, cs = rowI l ∧ l.length = P.cellsOf t ∧ ∀ n ∈ l, In64 n

theorem fld_spec {r : TypeId → Bool} {fuel : Nat} (hr : ∀ t, r t = true → ∀ cs x, DataW.trod enc P w base spare held fuel t cs = some x → IsI P t cs) (cs : List Value) (tot : Nat) (hl : cs.length = tot) :
    ∀ (fs : List Field) (off : Nat) xs, fldI P r fs off tot = true → fs.mapM (fun f => DataW.trod enc P w base spare held fuel f.type ((cs.drop f.offset).take (P.cellsOf f.type))) = some xs →
      ∃ l : List Int, cs.drop off = rowI l ∧ off + l.length = tot ∧ ∀ n ∈ l, In64 n
  | [], off, xs, h, _ => by
    have h' := Nat.eq_of_beq_eq_true h
    exact ⟨[], by rw [List.drop_eq_nil_of_le (by omega)]; rfl, by simp [h'], fun n hn => by cases hn⟩
  | f :: fs, off, xs, h, hm => by
    simp only [fldI, Bool.and_eq_true] at h
    obtain ⟨h1, h2, h3⟩ := h
    have h1' := Nat.eq_of_beq_eq_true h1
    rw [List.mapM_cons] at hm
    simp only [bind, Option.bind_eq_some_iff, pure, Option.some.injEq] at hm
    obtain ⟨x, hx, ys, hys, -⟩ := hm
    obtain ⟨l1, e1, n1, w1⟩ := hr _ h2 _ _ hx
    obtain ⟨l2, e2, n2, w2⟩ := fld_spec hr cs tot hl fs _ ys h3 hys
    refine ⟨l1 ++ l2, ?_, by rw [List.length_append]; omega, fun n hn => ?_⟩
    · rw [h1'] at e1
      have : cs.drop off = (cs.drop off).take (P.cellsOf f.type) ++ cs.drop (off + P.cellsOf f.type) := by rw [← List.drop_drop, List.take_append_drop]
      rw [this, e1, e2]
      simp [rowI]
    · rcases List.mem_append.1 hn with hn | hn
      · exact w1 n hn
      · exact w2 n hn
theorem arr_spec {r : TypeId → Bool} {fuel : Nat} {e : TypeId} (hr : ∀ cs x, DataW.trod enc P w base spare held fuel e cs = some x → IsI P e cs) (cs : List Value) (tot : Nat) (hl : cs.length = tot) :
    ∀ (m k : Nat) xs, (k + m) * P.cellsOf e = tot → (List.range' k m).mapM (fun i => DataW.trod enc P w base spare held fuel e ((cs.drop (i * P.cellsOf e)).take (P.cellsOf e))) = some xs →
      ∃ l : List Int, cs.drop (k * P.cellsOf e) = rowI l ∧ k * P.cellsOf e + l.length = tot ∧ ∀ n ∈ l, In64 n
  | 0, k, xs, h, _ => by
    rw [Nat.add_zero] at h
    exact ⟨[], by rw [List.drop_eq_nil_of_le (by omega)]; rfl, by simp [h], fun n hn => by cases hn⟩
  | m + 1, k, xs, h, hm => by
    rw [List.range'_succ, List.mapM_cons] at hm
    simp only [bind, Option.bind_eq_some_iff, pure, Option.some.injEq] at hm
    obtain ⟨x, hx, ys, hys, -⟩ := hm
    obtain ⟨l1, e1, n1, w1⟩ := hr _ _ hx
    obtain ⟨l2, e2, n2, w2⟩ := arr_spec (r := r) hr cs tot hl m (k + 1) ys (by rw [← h]; congr 1; omega) hys
    refine ⟨l1 ++ l2, ?_, by rw [List.length_append]; rw [Nat.add_mul] at n2; omega, fun n hn => ?_⟩
    · have : cs.drop (k * P.cellsOf e) = (cs.drop (k * P.cellsOf e)).take (P.cellsOf e) ++ cs.drop ((k + 1) * P.cellsOf e) := by
        rw [show (k + 1) * P.cellsOf e = k * P.cellsOf e + P.cellsOf e by rw [Nat.add_mul, Nat.one_mul], ← List.drop_drop, List.take_append_drop]
      rw [this, e1, e2]
      simp [rowI]
    · rcases List.mem_append.1 hn with hn | hn
      · exact w1 n hn
      · exact w2 n hn
theorem trod_allI : ∀ (d : Nat) (t : TypeId), allI P d t = true → ∀ fuel cs x, DataW.trod enc P w base spare held fuel t cs = some x → IsI P t cs
  | 0, _, h => by cases h
  | d + 1, t, h => by
    intro fuel cs x hx
    cases fuel with
    | zero => simp [DataW.trod] at hx
    | succ fuel =>
      have ih := trod_allI d
      unfold allI at h
      split at h
      · rename_i hu
        have h' := Nat.eq_of_beq_eq_true h
        match cs, hx with
        | [], hx => simp [DataW.trod, hu] at hx
        | _ :: _ :: _, hx => simp [DataW.trod, hu] at hx
        | [v], hx =>
          simp only [DataW.trod, hu] at hx
          cases v <;> simp at hx
          rename_i k n
          obtain ⟨⟨hk1, hk2⟩, -⟩ := hx
          subst hk1
          refine ⟨[n], rfl, by rw [h']; rfl, fun m hm => ?_⟩
          rw [List.mem_singleton] at hm
          subst hm
          have hm1 : IntKind.i64.min = -9223372036854775808 := by decide
          have hM1 : IntKind.i64.max = 9223372036854775807 := by decide
          simp only [Lit.wf, hm1, hM1] at hk2
          unfold In64
          simpa using hk2
      · rename_i fs hu
        simp only [DataW.trod, hu] at hx
        split at hx
        · rename_i hl
          simp only [Option.map_eq_some_iff] at hx
          obtain ⟨xs, hxs, -⟩ := hx
          obtain ⟨l, e, nl, wl⟩ := fld_spec (fun t' ht' cs' x' hx' => ih t' ht' fuel cs' x' hx') cs _ hl fs.toList 0 xs h hxs
          exact ⟨l, e, by omega, wl⟩
        · cases hx
      · rename_i m e hu
        simp only [Bool.and_eq_true] at h
        have h2 := Nat.eq_of_beq_eq_true h.2
        simp only [DataW.trod, hu] at hx
        split at hx
        · rename_i hl
          simp only [Option.map_eq_some_iff] at hx
          obtain ⟨xs, hxs, -⟩ := hx
          rw [List.range_eq_range'] at hxs
          obtain ⟨l, e', nl, wl⟩ := arr_spec (r := fun _ => true) (fun cs' x' hx' => ih e h.1 fuel cs' x' hx') cs _ hl m 0 xs (by rw [Nat.zero_add]; exact h2) hxs
          rw [Nat.zero_mul, List.drop_zero] at e'
          rw [Nat.zero_mul, Nat.zero_add] at nl
          exact ⟨l, e', nl, wl⟩
        · cases hx
      · cases h

/-- A struct or an array of ints, by value. -/
theorem open_aggI {t : TypeId} {cs : Array Value} {d : DataW H} {p : List MemPlace} (k : Nat) (ht : allI P k t = true) (h : DataW.Trod enc P w base spare held t (.agg cs) d p) : ∃ l : List Int, cs = ints l ∧ l.length = P.cellsOf t ∧ ∀ n ∈ l, In64 n := by
  obtain ⟨fuel, hf⟩ := h
  obtain ⟨l, e, nl, wl⟩ := trod_allI k t ht fuel _ _ hf
  refine ⟨l, ?_, nl, wl⟩
  have : cs.toList = rowI l := e
  rw [← Array.toArray_toList (xs := cs), this]
  rfl
theorem open_intI {t : TypeId} {v : Value} {n : Int} {d : DataW H} {p : List MemPlace} (k : Nat) (ht : allI P k t = true) (hv : v = .int .i64 n) (h : DataW.Trod enc P w base spare held t v d p) : In64 n := by
  obtain ⟨fuel, hf⟩ := h
  obtain ⟨l, e, nl, wl⟩ := trod_allI k t ht fuel _ _ hf
  subst hv
  cases l with
  | nil => cases e
  | cons m l =>
    have : m = n := by
      simp only [Value.cells, rowI, List.map_cons] at e
      have e1 := (List.cons.inj e).1
      simp only [Value.int.injEq] at e1
      exact e1.2.symm
    exact this ▸ wl m (List.mem_cons_self ..)
theorem agg_of_trod {t : TypeId} {v : Value} {d : DataW H} {p : List MemPlace} (k : Nat) (ht : allI P k t = true) (h2 : Nat.ble 2 (P.cellsOf t) = true) (h : DataW.Trod enc P w base spare held t v d p) : ∃ cs, v = .agg cs := by
  obtain ⟨fuel, hf⟩ := h
  obtain ⟨l, e, nl, wl⟩ := trod_allI k t ht fuel _ _ hf
  have h3 := Nat.le_of_ble_eq_true h2
  have h4 : v.cells.toList.length = l.length := by rw [e]; simp [rowI]
  cases v <;> first | exact ⟨_, rfl⟩ | (simp [Value.cells] at h4; omega)
/-- A slice of ints. -/
theorem open_slI {t e : TypeId} {A : Option Addr} {len cap : Nat} {d : DataW H} {p : List MemPlace} (ht : P.underlying t = some (.slice e)) (hc : P.cellsOf e = 1) (he : allI P 1 e = true) (h : DataW.Trod enc P w base spare held t (.slice A len cap) d p) :
    ∃ l : List Int, l.length = len ∧ len ≤ maxLen ∧ IReads w A l ∧ ∀ n ∈ l, In64 n := by
  obtain ⟨fuel, hf⟩ := h
  rcases open_slice1 ht hc hf with ⟨hcs, _⟩ | ⟨a, ln, c, m, n, V, D, Pl, hcs, _, hl, hm, hmm, _, hi⟩
  · simp [Value.cells] at hcs
    obtain ⟨rfl, rfl, rfl⟩ := hcs
    exact ⟨[], rfl, Nat.zero_le _, fun k hk => absurd hk (by simp), fun n hn => by cases hn⟩
  · simp [Value.cells] at hcs
    obtain ⟨rfl, rfl, rfl⟩ := hcs
    have hlm : len ≤ m := by rw [hmm]; split <;> omega
    obtain ⟨f, hf'⟩ := choose_lt (α := Int) (p := fun i b => w.cell? (a.add i) = some (.int .i64 b) ∧ In64 b) (n := len) (fun i hi' => by
      obtain ⟨h1, h2⟩ := hi i (by omega)
      obtain ⟨l, e1, nl, wl⟩ := trod_allI 1 e he n _ _ h2
      match l, e1 with
      | [b], e1 =>
        have e2 : V i = .int .i64 b := by simpa [rowI] using e1
        exact ⟨b, by rw [h1, e2], wl b (List.mem_singleton.2 rfl)⟩
      | [], e1 => simp [rowI] at e1
      | _ :: _ :: _, e1 => simp [rowI] at e1)
    refine ⟨(List.range len).map f, by simp, by omega, fun k hk => ⟨a, rfl, ?_⟩, fun n hn => ?_⟩
    · have hk' : k < len := by simpa using hk
      rw [nthI_eq hk, (hf' k hk').1]
      simp
    · simp only [List.mem_map, List.mem_range] at hn
      obtain ⟨i, hi', rfl⟩ := hn
      exact (hf' i hi').2
end
theorem list1 {l : List Int} (hl : l.length = 1) : ∃ a, l = [a] := by
  match l, hl with
  | [a], _ => exact ⟨a, rfl⟩
theorem list2 {l : List Int} (hl : l.length = 2) : ∃ a b, l = [a, b] := by
  match l, hl with
  | [a, b], _ => exact ⟨a, b, rfl⟩
theorem list3 {l : List Int} (hl : l.length = 3) : ∃ a b c, l = [a, b, c] := by
  match l, hl with
  | [a, b, c], _ => exact ⟨a, b, c, rfl⟩
theorem list4 {l : List Int} (hl : l.length = 4) : ∃ a b c d, l = [a, b, c, d] := by
  match l, hl with
  | [a, b, c, d], _ => exact ⟨a, b, c, d, rfl⟩
theorem list5 {l : List Int} (hl : l.length = 5) : ∃ a b c d e, l = [a, b, c, d, e] := by
  match l, hl with
  | [a, b, c, d, e], _ => exact ⟨a, b, c, d, e, rfl⟩
theorem list6 {l : List Int} (hl : l.length = 6) : ∃ a b c d e f, l = [a, b, c, d, e, f] := by
  match l, hl with
  | [a, b, c, d, e, f], _ => exact ⟨a, b, c, d, e, f, rfl⟩
theorem list7 {l : List Int} (hl : l.length = 7) : ∃ a b c d e f g, l = [a, b, c, d, e, f, g] := by
  match l, hl with
  | [a, b, c, d, e, f, g], _ => exact ⟨a, b, c, d, e, f, g, rfl⟩
theorem list8 {l : List Int} (hl : l.length = 8) : ∃ a b c d e f g h, l = [a, b, c, d, e, f, g, h] := by
  match l, hl with
  | [a, b, c, d, e, f, g, h], _ => exact ⟨a, b, c, d, e, f, g, h, rfl⟩
theorem list9 {l : List Int} (hl : l.length = 9) : ∃ a b c d e f g h i, l = [a, b, c, d, e, f, g, h, i] := by
  match l, hl with
  | [a, b, c, d, e, f, g, h, i], _ => exact ⟨a, b, c, d, e, f, g, h, i, rfl⟩
theorem list10 {l : List Int} (hl : l.length = 10) : ∃ a b c d e f g h i j, l = [a, b, c, d, e, f, g, h, i, j] := by
  match l, hl with
  | [a, b, c, d, e, f, g, h, i, j], _ => exact ⟨a, b, c, d, e, f, g, h, i, j, rfl⟩
theorem list11 {l : List Int} (hl : l.length = 11) : ∃ a b c d e f g h i j k, l = [a, b, c, d, e, f, g, h, i, j, k] := by
  match l, hl with
  | [a, b, c, d, e, f, g, h, i, j, k], _ => exact ⟨a, b, c, d, e, f, g, h, i, j, k, rfl⟩
theorem list12 {l : List Int} (hl : l.length = 12) : ∃ a b c d e f g h i j k m, l = [a, b, c, d, e, f, g, h, i, j, k, m] := by
  match l, hl with
  | [a, b, c, d, e, f, g, h, i, j, k, m], _ => exact ⟨a, b, c, d, e, f, g, h, i, j, k, m, rfl⟩
theorem list13 {l : List Int} (hl : l.length = 13) : ∃ a b c d e f g h i j k m n, l = [a, b, c, d, e, f, g, h, i, j, k, m, n] := by
  match l, hl with
  | [a, b, c, d, e, f, g, h, i, j, k, m, n], _ => exact ⟨a, b, c, d, e, f, g, h, i, j, k, m, n, rfl⟩
theorem list14 {l : List Int} (hl : l.length = 14) : ∃ a b c d e f g h i j k m n o, l = [a, b, c, d, e, f, g, h, i, j, k, m, n, o] := by
  match l, hl with
  | [a, b, c, d, e, f, g, h, i, j, k, m, n, o], _ => exact ⟨a, b, c, d, e, f, g, h, i, j, k, m, n, o, rfl⟩
theorem list15 {l : List Int} (hl : l.length = 15) : ∃ a b c d e f g h i j k m n o p, l = [a, b, c, d, e, f, g, h, i, j, k, m, n, o, p] := by
  match l, hl with
  | [a, b, c, d, e, f, g, h, i, j, k, m, n, o, p], _ => exact ⟨a, b, c, d, e, f, g, h, i, j, k, m, n, o, p, rfl⟩
theorem list16 {l : List Int} (hl : l.length = 16) : ∃ a b c d e f g h i j k m n o p q, l = [a, b, c, d, e, f, g, h, i, j, k, m, n, o, p, q] := by
  match l, hl with
  | [a, b, c, d, e, f, g, h, i, j, k, m, n, o, p, q], _ => exact ⟨a, b, c, d, e, f, g, h, i, j, k, m, n, o, p, q, rfl⟩
end Go.Proofs.Ytnbimpkihpaldaa
