/- Texts of the proof of TraceFrames, put together (part 11): Args, Args2, Args3, ArgsF, MdA. -/
import Derived.Test.YtcijkniijomcjaaSg10
import Derived.JoinedOf
/- How the laws' arguments are opened: ints, structs and arrays of ints, slices of ints. -/
namespace Go.Proofs.Ytcijkniijomcjaa
open Go.ChangeShapes Go.WideShapes Go.ChangeAt Go.RowKit Go.Deep Go.Cpl

theorem own_ : ownKnob Try.prog.godebug = none := by kernel_rfl
theorem laidOut_ : laidOutB Try.prog = true := by kernel_rfl
theorem and_in {a b : Bool} (ha : a = true) (hb : b = true) : (a && b) = true := by rw [ha, hb]; rfl

/-- An int of 64 bits. -/
def In64 (n : Int) : Prop := -9223372036854775808 ≤ n ∧ n ≤ 9223372036854775807

section
variable {H : Type} {enc : TypeId × Value → H} {P : Program} {w : World} {base : Nat} {spare : Nat → Bool} {held : Bool}

def fldI (P : Program) (r : TypeId → Bool) : List Field → Nat → Nat → Bool
  | [], off, tot => Nat.beq off tot
  | f :: fs, off, tot => Nat.beq f.offset off && (r f.type && fldI P r fs (off + P.cellsOf f.type) tot)
/-- A type all of whose cells are ints. -/
def allI (P : Program) : Nat → TypeId → Bool
  | 0, _ => false
  | d + 1, t =>
    match P.underlying t with
    | some (.int .i64) => Nat.beq (P.cellsOf t) 1
    | some (.struct fs) => fldI P (allI P d) fs.toList 0 (P.cellsOf t)
    | some (.array m e) => allI P d e && Nat.beq (m * P.cellsOf e) (P.cellsOf t)
    | _ => false

def IsI (P : Program) (t : TypeId) (cs : List Value) : Prop := ∃ l : List Int, cs = rowI l ∧ l.length = P.cellsOf t ∧ ∀ n ∈ l, In64 n

theorem fld_spec {r : TypeId → Bool} {fuel : Nat} (hr : ∀ t, r t = true → ∀ cs x, DataW.trod enc P w base spare held fuel t cs = some x → IsI P t cs) (cs : List Value) (tot : Nat) (hl : cs.length = tot) :
    ∀ (fs : List Field) (off : Nat) xs, fldI P r fs off tot = true → fs.mapM (fun f => DataW.trod enc P w base spare held fuel f.type ((cs.drop f.offset).take (P.cellsOf f.type))) = some xs →
      ∃ l : List Int, cs.drop off = rowI l ∧ off + l.length = tot ∧ ∀ n ∈ l, In64 n
  | [], off, xs, h, _ => by
    have h' := Nat.eq_of_beq_eq_true h
    exact ⟨[], by rw [List.drop_eq_nil_of_le (by omega)]; rfl, by simp [h'], fun n hn => by cases hn⟩
  | f :: fs, off, xs, h, hm => by
    simp only [fldI, Bool.and_eq_true] at h
    obtain ⟨h1, h2, h3⟩ := h
    have h1' := Nat.eq_of_beq_eq_true h1
    rw [List.mapM_cons] at hm
    simp only [bind, Option.bind_eq_some_iff, pure, Option.some.injEq] at hm
    obtain ⟨x, hx, ys, hys, -⟩ := hm
    obtain ⟨l1, e1, n1, w1⟩ := hr _ h2 _ _ hx
    obtain ⟨l2, e2, n2, w2⟩ := fld_spec hr cs tot hl fs _ ys h3 hys
    refine ⟨l1 ++ l2, ?_, by rw [List.length_append]; omega, fun n hn => ?_⟩
    · rw [h1'] at e1
      have : cs.drop off = (cs.drop off).take (P.cellsOf f.type) ++ cs.drop (off + P.cellsOf f.type) := by rw [← List.drop_drop, List.take_append_drop]
      rw [this, e1, e2]
      simp [rowI]
    · rcases List.mem_append.1 hn with hn | hn
      · exact w1 n hn
      · exact w2 n hn
theorem arr_spec {r : TypeId → Bool} {fuel : Nat} {e : TypeId} (hr : ∀ cs x, DataW.trod enc P w base spare held fuel e cs = some x → IsI P e cs) (cs : List Value) (tot : Nat) (hl : cs.length = tot) :
    ∀ (m k : Nat) xs, (k + m) * P.cellsOf e = tot → (List.range' k m).mapM (fun i => DataW.trod enc P w base spare held fuel e ((cs.drop (i * P.cellsOf e)).take (P.cellsOf e))) = some xs →
      ∃ l : List Int, cs.drop (k * P.cellsOf e) = rowI l ∧ k * P.cellsOf e + l.length = tot ∧ ∀ n ∈ l, In64 n
  | 0, k, xs, h, _ => by
    rw [Nat.add_zero] at h
    exact ⟨[], by rw [List.drop_eq_nil_of_le (by omega)]; rfl, by simp [h], fun n hn => by cases hn⟩
  | m + 1, k, xs, h, hm => by
    rw [List.range'_succ, List.mapM_cons] at hm
    simp only [bind, Option.bind_eq_some_iff, pure, Option.some.injEq] at hm
    obtain ⟨x, hx, ys, hys, -⟩ := hm
    obtain ⟨l1, e1, n1, w1⟩ := hr _ _ hx
    obtain ⟨l2, e2, n2, w2⟩ := arr_spec (r := r) hr cs tot hl m (k + 1) ys (by rw [← h]; congr 1; omega) hys
    refine ⟨l1 ++ l2, ?_, by rw [List.length_append]; rw [Nat.add_mul] at n2; omega, fun n hn => ?_⟩
    · have : cs.drop (k * P.cellsOf e) = (cs.drop (k * P.cellsOf e)).take (P.cellsOf e) ++ cs.drop ((k + 1) * P.cellsOf e) := by
        rw [show (k + 1) * P.cellsOf e = k * P.cellsOf e + P.cellsOf e by rw [Nat.add_mul, Nat.one_mul], ← List.drop_drop, List.take_append_drop]
      rw [this, e1, e2]
      simp [rowI]
    · rcases List.mem_append.1 hn with hn | hn
      · exact w1 n hn
      · exact w2 n hn
theorem trod_allI : ∀ (d : Nat) (t : TypeId), allI P d t = true → ∀ fuel cs x, DataW.trod enc P w base spare held fuel t cs = some x → IsI P t cs
  | 0, _, h => by cases h
  | d + 1, t, h => by
    intro fuel cs x hx
    cases fuel with
    | zero => simp [DataW.trod] at hx
    | succ fuel =>
      have ih := trod_allI d
      unfold allI at h
      split at h
      · rename_i hu
        have h' := Nat.eq_of_beq_eq_true h
        match cs, hx with
        | [], hx => simp [DataW.trod, hu] at hx
        | _ :: _ :: _, hx => simp [DataW.trod, hu] at hx
        | [v], hx =>
          simp only [DataW.trod, hu] at hx
          cases v <;> simp at hx
          rename_i k n
          obtain ⟨⟨hk1, hk2⟩, -⟩ := hx
          subst hk1
          refine ⟨[n], rfl, by rw [h']; rfl, fun m hm => ?_⟩
          rw [List.mem_singleton] at hm
          subst hm
          have hm1 : IntKind.i64.min = -9223372036854775808 := by decide
          have hM1 : IntKind.i64.max = 9223372036854775807 := by decide
          simp only [Lit.wf, hm1, hM1] at hk2
          unfold In64
          simpa using hk2
      · rename_i fs hu
        simp only [DataW.trod, hu] at hx
        split at hx
        · rename_i hl
          simp only [Option.map_eq_some_iff] at hx
          obtain ⟨xs, hxs, -⟩ := hx
          obtain ⟨l, e, nl, wl⟩ := fld_spec (fun t' ht' cs' x' hx' => ih t' ht' fuel cs' x' hx') cs _ hl fs.toList 0 xs h hxs
          exact ⟨l, e, by omega, wl⟩
        · cases hx
      · rename_i m e hu
        simp only [Bool.and_eq_true] at h
        have h2 := Nat.eq_of_beq_eq_true h.2
        simp only [DataW.trod, hu] at hx
        split at hx
        · rename_i hl
          simp only [Option.map_eq_some_iff] at hx
          obtain ⟨xs, hxs, -⟩ := hx
          rw [List.range_eq_range'] at hxs
          obtain ⟨l, e', nl, wl⟩ := arr_spec (r := fun _ => true) (fun cs' x' hx' => ih e h.1 fuel cs' x' hx') cs _ hl m 0 xs (by rw [Nat.zero_add]; exact h2) hxs
          rw [Nat.zero_mul, List.drop_zero] at e'
          rw [Nat.zero_mul, Nat.zero_add] at nl
          exact ⟨l, e', nl, wl⟩
        · cases hx
      · cases h

/-- A struct or an array of ints, by value. -/
theorem open_aggI {t : TypeId} {cs : Array Value} {d : DataW H} {p : List MemPlace} (k : Nat) (ht : allI P k t = true) (h : DataW.Trod enc P w base spare held t (.agg cs) d p) : ∃ l : List Int, cs = ints l ∧ l.length = P.cellsOf t ∧ ∀ n ∈ l, In64 n := by
  obtain ⟨fuel, hf⟩ := h
  obtain ⟨l, e, nl, wl⟩ := trod_allI k t ht fuel _ _ hf
  refine ⟨l, ?_, nl, wl⟩
  have : cs.toList = rowI l := e
  rw [← Array.toArray_toList (xs := cs), this]
  rfl
theorem open_intI {t : TypeId} {v : Value} {n : Int} {d : DataW H} {p : List MemPlace} (k : Nat) (ht : allI P k t = true) (hv : v = .int .i64 n) (h : DataW.Trod enc P w base spare held t v d p) : In64 n := by
  obtain ⟨fuel, hf⟩ := h
  obtain ⟨l, e, nl, wl⟩ := trod_allI k t ht fuel _ _ hf
  subst hv
  cases l with
  | nil => cases e
  | cons m l =>
    have : m = n := by
      simp only [Value.cells, rowI, List.map_cons] at e
      have e1 := (List.cons.inj e).1
      simp only [Value.int.injEq] at e1
      exact e1.2.symm
    exact this ▸ wl m (List.mem_cons_self ..)
theorem agg_of_trod {t : TypeId} {v : Value} {d : DataW H} {p : List MemPlace} (k : Nat) (ht : allI P k t = true) (h2 : Nat.ble 2 (P.cellsOf t) = true) (h : DataW.Trod enc P w base spare held t v d p) : ∃ cs, v = .agg cs := by
  obtain ⟨fuel, hf⟩ := h
  obtain ⟨l, e, nl, wl⟩ := trod_allI k t ht fuel _ _ hf
  have h3 := Nat.le_of_ble_eq_true h2
  have h4 : v.cells.toList.length = l.length := by rw [e]; simp [rowI]
  cases v <;> first | exact ⟨_, rfl⟩ | (simp [Value.cells] at h4; omega)
/-- A slice of ints. -/
theorem open_slI {t e : TypeId} {A : Option Addr} {len cap : Nat} {d : DataW H} {p : List MemPlace} (ht : P.underlying t = some (.slice e)) (hc : P.cellsOf e = 1) (he : allI P 1 e = true) (h : DataW.Trod enc P w base spare held t (.slice A len cap) d p) :
    ∃ l : List Int, l.length = len ∧ len ≤ maxLen ∧ IReads w A l ∧ ∀ n ∈ l, In64 n := by
  obtain ⟨fuel, hf⟩ := h
  rcases open_slice1 ht hc hf with ⟨hcs, _⟩ | ⟨a, ln, c, m, n, V, D, Pl, hcs, _, hl, hm, hmm, _, hi⟩
  · simp [Value.cells] at hcs
    obtain ⟨rfl, rfl, rfl⟩ := hcs
    exact ⟨[], rfl, Nat.zero_le _, fun k hk => absurd hk (by simp), fun n hn => by cases hn⟩
  · simp [Value.cells] at hcs
    obtain ⟨rfl, rfl, rfl⟩ := hcs
    have hlm : len ≤ m := by rw [hmm]; split <;> omega
    obtain ⟨f, hf'⟩ := choose_lt (α := Int) (p := fun i b => w.cell? (a.add i) = some (.int .i64 b) ∧ In64 b) (n := len) (fun i hi' => by
      obtain ⟨h1, h2⟩ := hi i (by omega)
      obtain ⟨l, e1, nl, wl⟩ := trod_allI 1 e he n _ _ h2
      match l, e1 with
      | [b], e1 =>
        have e2 : V i = .int .i64 b := by simpa [rowI] using e1
        exact ⟨b, by rw [h1, e2], wl b (List.mem_singleton.2 rfl)⟩
      | [], e1 => simp [rowI] at e1
      | _ :: _ :: _, e1 => simp [rowI] at e1)
    refine ⟨(List.range len).map f, by simp, by omega, fun k hk => ⟨a, rfl, ?_⟩, fun n hn => ?_⟩
    · have hk' : k < len := by simpa using hk
      rw [nthI_eq hk, (hf' k hk').1]
      simp
    · simp only [List.mem_map, List.mem_range] at hn
      obtain ⟨i, hi', rfl⟩ := hn
      exact (hf' i hi').2
end
theorem list1 {l : List Int} (hl : l.length = 1) : ∃ a, l = [a] := by
  match l, hl with
  | [a], _ => exact ⟨a, rfl⟩
theorem list2 {l : List Int} (hl : l.length = 2) : ∃ a b, l = [a, b] := by
  match l, hl with
  | [a, b], _ => exact ⟨a, b, rfl⟩
theorem list3 {l : List Int} (hl : l.length = 3) : ∃ a b c, l = [a, b, c] := by
  match l, hl with
  | [a, b, c], _ => exact ⟨a, b, c, rfl⟩
theorem list4 {l : List Int} (hl : l.length = 4) : ∃ a b c d, l = [a, b, c, d] := by
  match l, hl with
  | [a, b, c, d], _ => exact ⟨a, b, c, d, rfl⟩
theorem list5 {l : List Int} (hl : l.length = 5) : ∃ a b c d e, l = [a, b, c, d, e] := by
  match l, hl with
  | [a, b, c, d, e], _ => exact ⟨a, b, c, d, e, rfl⟩
theorem list6 {l : List Int} (hl : l.length = 6) : ∃ a b c d e f, l = [a, b, c, d, e, f] := by
  match l, hl with
  | [a, b, c, d, e, f], _ => exact ⟨a, b, c, d, e, f, rfl⟩
theorem list7 {l : List Int} (hl : l.length = 7) : ∃ a b c d e f g, l = [a, b, c, d, e, f, g] := by
  match l, hl with
  | [a, b, c, d, e, f, g], _ => exact ⟨a, b, c, d, e, f, g, rfl⟩
theorem list8 {l : List Int} (hl : l.length = 8) : ∃ a b c d e f g h, l = [a, b, c, d, e, f, g, h] := by
  match l, hl with
  | [a, b, c, d, e, f, g, h], _ => exact ⟨a, b, c, d, e, f, g, h, rfl⟩
theorem list9 {l : List Int} (hl : l.length = 9) : ∃ a b c d e f g h i, l = [a, b, c, d, e, f, g, h, i] := by
  match l, hl with
  | [a, b, c, d, e, f, g, h, i], _ => exact ⟨a, b, c, d, e, f, g, h, i, rfl⟩
theorem list10 {l : List Int} (hl : l.length = 10) : ∃ a b c d e f g h i j, l = [a, b, c, d, e, f, g, h, i, j] := by
  match l, hl with
  | [a, b, c, d, e, f, g, h, i, j], _ => exact ⟨a, b, c, d, e, f, g, h, i, j, rfl⟩
theorem list11 {l : List Int} (hl : l.length = 11) : ∃ a b c d e f g h i j k, l = [a, b, c, d, e, f, g, h, i, j, k] := by
  match l, hl with
  | [a, b, c, d, e, f, g, h, i, j, k], _ => exact ⟨a, b, c, d, e, f, g, h, i, j, k, rfl⟩
theorem list12 {l : List Int} (hl : l.length = 12) : ∃ a b c d e f g h i j k m, l = [a, b, c, d, e, f, g, h, i, j, k, m] := by
  match l, hl with
  | [a, b, c, d, e, f, g, h, i, j, k, m], _ => exact ⟨a, b, c, d, e, f, g, h, i, j, k, m, rfl⟩
theorem list13 {l : List Int} (hl : l.length = 13) : ∃ a b c d e f g h i j k m n, l = [a, b, c, d, e, f, g, h, i, j, k, m, n] := by
  match l, hl with
  | [a, b, c, d, e, f, g, h, i, j, k, m, n], _ => exact ⟨a, b, c, d, e, f, g, h, i, j, k, m, n, rfl⟩
theorem list14 {l : List Int} (hl : l.length = 14) : ∃ a b c d e f g h i j k m n o, l = [a, b, c, d, e, f, g, h, i, j, k, m, n, o] := by
  match l, hl with
  | [a, b, c, d, e, f, g, h, i, j, k, m, n, o], _ => exact ⟨a, b, c, d, e, f, g, h, i, j, k, m, n, o, rfl⟩
theorem list15 {l : List Int} (hl : l.length = 15) : ∃ a b c d e f g h i j k m n o p, l = [a, b, c, d, e, f, g, h, i, j, k, m, n, o, p] := by
  match l, hl with
  | [a, b, c, d, e, f, g, h, i, j, k, m, n, o, p], _ => exact ⟨a, b, c, d, e, f, g, h, i, j, k, m, n, o, p, rfl⟩
theorem list16 {l : List Int} (hl : l.length = 16) : ∃ a b c d e f g h i j k m n o p q, l = [a, b, c, d, e, f, g, h, i, j, k, m, n, o, p, q] := by
  match l, hl with
  | [a, b, c, d, e, f, g, h, i, j, k, m, n, o, p, q], _ => exact ⟨a, b, c, d, e, f, g, h, i, j, k, m, n, o, p, q, rfl⟩
end Go.Proofs.Ytcijkniijomcjaa
/-! How an argument that is a slice of structs of ints is opened. -/
namespace Go.Proofs.Ytcijkniijomcjaa
open Go.ChangeShapes Go.WideShapes Go.ChangeAt Go.RowKit Go.Deep Go.Cpl
section
variable {H : Type} {enc : TypeId × Value → H} {P : Program} {w : World} {base : Nat} {spare : Nat → Bool} {held : Bool}
theorem open_slF {t e : TypeId} {A : Option Addr} {len cap : Nat} {d : DataW H} {p : List MemPlace} (s k : Nat) (ht : P.underlying t = some (.slice e)) (hc : P.cellsOf e = s) (hs : Nat.blt 0 s = true) (he : allI P k e = true) (h : DataW.Trod enc P w base spare held t (.slice A len cap) d p) :
    ∃ l : List Int, l.length = len * s ∧ len ≤ maxLen ∧ IReads w A l ∧ ∀ n ∈ l, In64 n := by
  obtain ⟨fuel, hf⟩ := h
  have hs' := blt_lt hs
  rcases open_slice ht hf with ⟨hcs, _⟩ | ⟨a, ln, c, m, n, D, Pl, hcs, _, hl, hm, hmm, _, hi⟩
  · simp [Value.cells] at hcs
    obtain ⟨rfl, rfl, rfl⟩ := hcs
    exact ⟨[], by simp, Nat.zero_le _, fun k hk => absurd hk (by simp), fun n hn => by cases hn⟩
  · simp [Value.cells] at hcs
    obtain ⟨rfl, rfl, rfl⟩ := hcs
    have hlm : len ≤ m := by rw [hmm]; split <;> omega
    obtain ⟨f, hf'⟩ := choose_lt (α := Int) (p := fun i b => w.cell? (a.add i) = some (.int .i64 b) ∧ In64 b) (n := len * s) (fun i hi' => by
      have hq : i / s < len := Nat.div_lt_of_lt_mul (by rw [Nat.mul_comm]; exact hi')
      have hr : i % s < s := Nat.mod_lt _ hs'
      obtain ⟨cs', h1, h2⟩ := hi (i / s) (by omega)
      obtain ⟨l, e1, nl, wl⟩ := trod_allI k e he n _ _ h2
      obtain ⟨_, _, hcell⟩ := World.cells?_some h1
      have hx := hcell (i % s) (by rw [hc]; exact hr)
      rw [Addr.add_add, hc, show i / s * s + i % s = i by rw [Nat.mul_comm]; exact Nat.div_add_mod i s] at hx
      have hrl : i % s < l.length := by rw [nl, hc]; exact hr
      refine ⟨l[i % s], ?_, wl _ (List.getElem_mem hrl)⟩
      rw [hx, e1]
      simp [rowI, hrl])
    refine ⟨(List.range (len * s)).map f, by simp, by omega, fun k hk => ⟨a, rfl, ?_⟩, fun n hn => ?_⟩
    · have hk' : k < len * s := by simpa using hk
      rw [nthI_eq hk, (hf' k hk').1]
      simp
    · simp only [List.mem_map, List.mem_range] at hn
      obtain ⟨i, hi', rfl⟩ := hn
      exact (hf' i hi').2
end
end Go.Proofs.Ytcijkniijomcjaa
/-! How an argument that is a struct with slices in it is opened. -/
namespace Go.Proofs.Ytcijkniijomcjaa
open Go.ChangeShapes Go.WideShapes Go.ChangeAt Go.RowKit Go.Deep Go.Cpl
section
variable {H : Type} {enc : TypeId × Value → H} {P : Program} {w : World} {base : Nat} {spare : Nat → Bool} {held : Bool}
/-- The fields of a struct. -/
theorem open_fld {t : TypeId} {fs : Array Field} {cs : Array Value} {d : DataW H} {p : List MemPlace} (ht : P.underlying t = some (.struct fs)) (h : DataW.Trod enc P w base spare held t (.agg cs) d p) :
    cs.size = P.cellsOf t ∧ ∃ n, ∀ (i : Nat) (f : Field), fs[i]? = some f → ∃ x, DataW.trod enc P w base spare held n f.type ((cs.toList.drop f.offset).take (P.cellsOf f.type)) = some x := by
  obtain ⟨fuel, hf⟩ := h
  have hf' : DataW.trod enc P w base spare held fuel t cs.toList = some (d, p) := hf
  obtain ⟨xs, n, _, _, hl, hlen, hx⟩ := DataW.trod_struct ht hf'
  refine ⟨by simpa using hl, n, fun i f hi => ?_⟩
  have hlt : i < fs.size := by
    rcases Nat.lt_or_ge i fs.size with q | q
    · exact q
    · rw [Array.getElem?_eq_none q] at hi; cases hi
  rw [hx i f hi, List.getElem?_eq_getElem (by omega)]
  exact ⟨_, rfl⟩
theorem open_slV {t e : TypeId} {v : Value} {n : Nat} {x : DataW H × List MemPlace} (s k : Nat) (ht : P.underlying t = some (.slice e)) (hc : P.cellsOf e = s) (hs : Nat.blt 0 s = true) (he : allI P k e = true) (h : DataW.trod enc P w base spare held n t [v] = some x) :
    ∃ A len cap, ∃ l : List Int, v = .slice A len cap ∧ l.length = len * s ∧ len ≤ maxLen ∧ IReads w A l ∧ ∀ n ∈ l, In64 n := by
  rcases open_slice ht h with ⟨hcs, _⟩ | ⟨a, ln, c, m, n', D, Pl, hcs, _⟩
  · obtain rfl : v = .slice none 0 0 := by simpa using hcs
    obtain ⟨l, q⟩ := open_slF (A := none) (len := 0) (cap := 0) s k ht hc hs he ⟨n, h⟩
    exact ⟨none, 0, 0, l, rfl, q⟩
  · obtain rfl : v = .slice (some a) ln c := by simpa using hcs
    obtain ⟨l, q⟩ := open_slF (A := some a) (len := ln) (cap := c) s k ht hc hs he ⟨n, h⟩
    exact ⟨some a, ln, c, l, rfl, q⟩
end
theorem varr2 {cs : Array Value} (h : cs.size = 2) : ∃ c0 c1, cs = #[c0, c1] := by
  match cs, h with
  | ⟨[c0, c1]⟩, _ => exact ⟨c0, c1, rfl⟩
theorem varr3 {cs : Array Value} (h : cs.size = 3) : ∃ c0 c1 c2, cs = #[c0, c1, c2] := by
  match cs, h with
  | ⟨[c0, c1, c2]⟩, _ => exact ⟨c0, c1, c2, rfl⟩
theorem varr4 {cs : Array Value} (h : cs.size = 4) : ∃ c0 c1 c2 c3, cs = #[c0, c1, c2, c3] := by
  match cs, h with
  | ⟨[c0, c1, c2, c3]⟩, _ => exact ⟨c0, c1, c2, c3, rfl⟩
theorem varr5 {cs : Array Value} (h : cs.size = 5) : ∃ c0 c1 c2 c3 c4, cs = #[c0, c1, c2, c3, c4] := by
  match cs, h with
  | ⟨[c0, c1, c2, c3, c4]⟩, _ => exact ⟨c0, c1, c2, c3, c4, rfl⟩
theorem varr6 {cs : Array Value} (h : cs.size = 6) : ∃ c0 c1 c2 c3 c4 c5, cs = #[c0, c1, c2, c3, c4, c5] := by
  match cs, h with
  | ⟨[c0, c1, c2, c3, c4, c5]⟩, _ => exact ⟨c0, c1, c2, c3, c4, c5, rfl⟩
theorem varr7 {cs : Array Value} (h : cs.size = 7) : ∃ c0 c1 c2 c3 c4 c5 c6, cs = #[c0, c1, c2, c3, c4, c5, c6] := by
  match cs, h with
  | ⟨[c0, c1, c2, c3, c4, c5, c6]⟩, _ => exact ⟨c0, c1, c2, c3, c4, c5, c6, rfl⟩
theorem varr8 {cs : Array Value} (h : cs.size = 8) : ∃ c0 c1 c2 c3 c4 c5 c6 c7, cs = #[c0, c1, c2, c3, c4, c5, c6, c7] := by
  match cs, h with
  | ⟨[c0, c1, c2, c3, c4, c5, c6, c7]⟩, _ => exact ⟨c0, c1, c2, c3, c4, c5, c6, c7, rfl⟩
theorem rowI1 {c : Value} {x : Int} (h : [c] = rowI [x]) : c = .int .i64 x := by simpa [rowI] using h
theorem rowI2 {c0 c1 : Value} {x y : Int} (h : [c0, c1] = rowI [x, y]) : c0 = .int .i64 x ∧ c1 = .int .i64 y := by simpa [rowI] using h
theorem rowI4 {c0 c1 c2 c3 : Value} {x y z u : Int} (h : [c0, c1, c2, c3] = rowI [x, y, z, u]) : c0 = .int .i64 x ∧ c1 = .int .i64 y ∧ c2 = .int .i64 z ∧ c3 = .int .i64 u := by simpa [rowI] using h
end Go.Proofs.Ytcijkniijomcjaa
/-! How a slice of floats in a struct is opened. -/
namespace Go.Proofs.Ytcijkniijomcjaa
open Go.ChangeShapes Go.WideShapes Go.ChangeAt Go.RowKit Go.Deep Go.Cpl
theorem open_flV {H : Type} {enc : TypeId × Value → H} {w : World} {base : Nat} {spare : Nat → Bool} {held : Bool} {v : Value} {n : Nat} {x : DataW H × List MemPlace} (h : DataW.trod enc Try.prog w base spare held n 23 [v] = some x) :
    ∃ A len cap, ∃ xs : List Nat, v = .slice A len cap ∧ xs.length = len ∧ len ≤ maxLen ∧ FReads w A xs := by
  rcases open_slice Try.underlying23 h with ⟨hcs, _⟩ | ⟨a, ln, c, m, n', D, Pl, hcs, _⟩
  · obtain rfl : v = .slice none 0 0 := by simpa using hcs
    obtain ⟨l, q⟩ := open_floats h
    exact ⟨none, 0, 0, l, rfl, q⟩
  · obtain rfl : v = .slice (some a) ln c := by simpa using hcs
    obtain ⟨l, q⟩ := open_floats h
    exact ⟨some a, ln, c, l, rfl, q⟩
end Go.Proofs.Ytcijkniijomcjaa
/-! How a slice of matrices that are made is opened. -/
namespace Go.Proofs.Ytcijkniijomcjaa
open Go.ChangeShapes Go.WideShapes Go.ChangeAt Go.RowKit Go.Deep Go.Cpl
instance : Inhabited Md := ⟨⟨0, none, 0, 0, [], none, 0, 0, [], 0⟩⟩
theorem mdX_length (ds : List Md) : (mdX ds).length = ds.length * 4 := by
  induction ds with
  | nil => rfl
  | cons m ms ih => simp only [mdX, List.flatMap_cons, List.length_append, List.length_cons] at ih ⊢; rw [ih]; simp [mdC]; omega
theorem md_reads {w : World} {a : Addr} {ds : List Md} (h : ∀ i, i < ds.length → MdOk w (mdK ds i) ∧ ∀ j x, (mdC (mdK ds i))[j]? = some x → w.cell? ((a.add (i * 4)).add j) = some x) : MdReads w (some a) ds := by
  refine ⟨fun k x hx => ⟨a, rfl, ?_⟩, fun k hk => (h k hk).1⟩
  have hk := (List.getElem?_eq_some_iff.1 hx).1
  rw [mdX_length] at hk
  have hi : k / 4 < ds.length := by omega
  obtain ⟨y, hy⟩ : ∃ y, (mdC (mdK ds (k / 4)))[k % 4]? = some y := ⟨_, List.getElem?_eq_getElem (show k % 4 < (mdC (mdK ds (k / 4))).length by simp [mdC]; omega)⟩
  have h1 := mdX_get hi _ _ hy
  have h2 := (h (k / 4) hi).2 _ _ hy
  rw [show k / 4 * 4 + k % 4 = k by omega] at h1
  rw [Addr.add_add, show k / 4 * 4 + k % 4 = k by omega] at h2
  rw [hx] at h1
  cases h1
  exact h2
section
variable {H : Type} {enc : TypeId × Value → H} {w : World} {base : Nat} {spare : Nat → Bool} {held : Bool}
set_option maxRecDepth 100000 in
theorem open_made {n : Nat} {cs : List Value} {x : DataW H × List MemPlace} (h : DataW.trod enc Try.prog w base spare held n 25 cs = some x) : ∃ m : Md, cs = mdC m ∧ MdOk w m := by
  have hT : DataW.Trod enc Try.prog w base spare held 25 (.agg cs.toArray) x.1 x.2 := ⟨n, h⟩
  obtain ⟨hs0, nn0, hf0⟩ := open_fld Try.underlying25 hT
  obtain ⟨c0, c1, c2, c3, e4⟩ := varr4 (hs0.trans (show Try.prog.cellsOf 25 = 4 by kernel_rfl))
  obtain rfl : cs = [c0, c1, c2, c3] := by have := congrArg Array.toList e4; simpa using this
  obtain ⟨x0, hx0⟩ := hf0 0 _ rfl
  have hy0 : DataW.trod enc Try.prog w base spare held nn0 3 [c0] = some x0 := hx0
  obtain ⟨L0, e0, hn0, hb0⟩ := trod_allI 5 3 (by kernel_rfl) _ _ _ hy0
  obtain ⟨el, rfl⟩ := list1 (hn0.trans (show Try.prog.cellsOf 3 = 1 by kernel_rfl))
  obtain rfl := rowI1 e0
  obtain ⟨x1, hx1⟩ := hf0 1 _ rfl
  have hy1 : DataW.trod enc Try.prog w base spare held nn0 22 [c1] = some x1 := hx1
  obtain ⟨SA, sn, scap, sl, rfl, hns, hms, hrs, hbs⟩ := open_slV 2 3 Try.underlying22 (by kernel_rfl) (by kernel_rfl) (by kernel_rfl) hy1
  obtain ⟨x2, hx2⟩ := hf0 2 _ rfl
  have hy2 : DataW.trod enc Try.prog w base spare held nn0 23 [c2] = some x2 := hx2
  obtain ⟨RA, rn, rcap, rl, rfl, hnf, hmf, hrf⟩ := open_flV hy2
  obtain ⟨x3, hx3⟩ := hf0 3 _ rfl
  have hy3 : DataW.trod enc Try.prog w base spare held nn0 3 [c3] = some x3 := hx3
  obtain ⟨L3, e3, hn3, hb3⟩ := trod_allI 5 3 (by kernel_rfl) _ _ _ hy3
  obtain ⟨mo, rfl⟩ := list1 (hn3.trans (show Try.prog.cellsOf 3 = 1 by kernel_rfl))
  obtain rfl := rowI1 e3
  have h9 := hb0 el (by simp)
  unfold In64 at h9
  exact ⟨⟨el, SA, sn, scap, sl, RA, rn, rcap, rl, mo⟩, rfl, ⟨hns, hrs, hnf, hrf, by simp only; omega, by simp only; omega⟩⟩
theorem open_mades {A : Option Addr} {len cap : Nat} {d : DataW H} {p : List MemPlace} (h : DataW.Trod enc Try.prog w base spare held 56 (.slice A len cap) d p) : ∃ ds : List Md, ds.length = len ∧ len ≤ maxLen ∧ MdReads w A ds := by
  obtain ⟨fuel, hf⟩ := h
  rcases open_slice Try.underlying56 hf with ⟨hcs, _⟩ | ⟨a, ln, c, m, n, D, Pl, hcs, _, hl, hm, hmm, _, hi⟩
  · simp [Value.cells] at hcs
    obtain ⟨rfl, rfl, rfl⟩ := hcs
    exact ⟨[], rfl, Nat.zero_le _, ⟨fun k x hx => by simp [mdX] at hx, fun k hk => absurd hk (Nat.not_lt_zero _)⟩⟩
  · simp [Value.cells] at hcs
    obtain ⟨rfl, rfl, rfl⟩ := hcs
    have hlm : len ≤ m := by rw [hmm]; split <;> omega
    have hc4 : Try.prog.cellsOf 25 = 4 := by kernel_rfl
    obtain ⟨f, hf'⟩ := choose_lt (α := Md) (p := fun i b => MdOk w b ∧ ∀ j x, (mdC b)[j]? = some x → w.cell? ((a.add (i * 4)).add j) = some x) (n := len) (fun i hi' => by
      obtain ⟨cs', h1, h2⟩ := hi i (by omega)
      obtain ⟨b, rfl, hb⟩ := open_made h2
      obtain ⟨_, _, hcell⟩ := World.cells?_some h1
      refine ⟨b, hb, fun j x hx => ?_⟩
      have hj : j < 4 := by have := (List.getElem?_eq_some_iff.1 hx).1; simpa [mdC] using this
      have hq := hcell j (by rw [hc4]; exact hj)
      rw [hc4, hx] at hq
      exact hq)
    refine ⟨(List.range len).map f, by simp, by omega, md_reads fun i hi => ?_⟩
    have hi2 : i < len := by simpa using hi
    have e : mdK ((List.range len).map f) i = f i := by simp [mdK, List.getD_eq_getElem?_getD, List.getElem?_range hi2]
    rw [e]
    exact hf' i hi2
end
end Go.Proofs.Ytcijkniijomcjaa
