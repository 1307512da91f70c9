import Derived.Test.YtcijkniijomcjaaAv1
/-! The means of matrices, step by step. -/
namespace Go.Proofs.Ytcijkniijomcjaa
open Go.RowKit Go.Cpl
/-- A list of ints, changed up to a place. -/
def updL (f : Nat → Int → Int) (S : List Int) (p : Nat) : List Int := (List.range S.length).map fun j => if j < p then f j (nthI S j) else nthI S j
theorem updL_length (f : Nat → Int → Int) (S : List Int) (p : Nat) : (updL f S p).length = S.length := by simp [updL]
theorem nthI_get {l : List Int} {k : Nat} (h : k < l.length) : l[k]? = some (nthI l k) := by rw [nthI_eq h]; exact List.getElem?_eq_getElem h
theorem list_extI {l m : List Int} (hl : l.length = m.length) (h : ∀ k, k < l.length → nthI l k = nthI m k) : l = m := by
  apply List.ext_getElem? 
  intro k
  rcases Nat.lt_or_ge k l.length with q | q
  · rw [nthI_get q, nthI_get (by omega), h k q]
  · rw [List.getElem?_eq_none q, List.getElem?_eq_none (by omega)]
theorem nthI_map {n k : Nat} (f : Nat → Int) (h : k < n) : nthI ((List.range n).map f) k = f k := by
  rw [nthI_eq (by simpa using h)]; simp
theorem updL_nth {f : Nat → Int → Int} {S : List Int} {p j : Nat} (h : j < S.length) : nthI (updL f S p) j = if j < p then f j (nthI S j) else nthI S j := nthI_map _ h
theorem updL_at {f : Nat → Int → Int} {S : List Int} {p : Nat} (h : p < S.length) : nthI (updL f S p) p = nthI S p := by rw [updL_nth h, if_neg (by omega)]
theorem updL_zero (f : Nat → Int → Int) (S : List Int) : updL f S 0 = S :=
  list_extI (updL_length _ _ _) fun k hk => by rw [updL_length] at hk; rw [updL_nth hk, if_neg (by omega)]
theorem nthI_set {l : List Int} {p j : Nat} {x : Int} (hj : j < l.length) : nthI (l.set p x) j = if p = j then x else nthI l j := by
  rw [nthI_eq (by simpa using hj), List.getElem_set]
  split
  · rfl
  · rw [nthI_eq hj]
theorem updL_set {f : Nat → Int → Int} {S : List Int} {p p' : Nat} {x : Int} (hp : p' = p + 1) (hx : x = f p (nthI S p)) : (updL f S p).set p x = updL f S p' := by
  subst hp; subst hx
  refine list_extI (by rw [List.length_set, updL_length, updL_length]) fun j hj => ?_
  rw [List.length_set, updL_length] at hj
  rw [nthI_set (by rw [updL_length]; exact hj), updL_nth hj, updL_nth hj]
  by_cases q : p = j
  · subst q; rw [if_pos rfl, if_pos (by omega)]
  · rw [if_neg q]
    by_cases q2 : j < p
    · rw [if_pos q2, if_pos (by omega)]
    · rw [if_neg q2, if_neg (by omega)]
/-- The sums of all places, of the first matrices. -/
def sumL (ms : List Mt) (k : Nat) : List Int := (List.range (mtK ms 0).xs.length).map fun p => sumK ms p k
theorem sumL_length (ms : List Mt) (k : Nat) : (sumL ms k).length = (mtK ms 0).xs.length := by simp [sumL]
theorem sumL_nth {ms : List Mt} {k p : Nat} (h : p < (mtK ms 0).xs.length) : nthI (sumL ms k) p = sumK ms p k := nthI_map _ h
theorem sumL_one (ms : List Mt) : mi (mtK ms 0).xs = sumL ms 1 :=
  list_extI (by rw [mi_length, sumL_length]) fun p hp => by
    rw [mi_length] at hp
    rw [sumL_nth hp]
    show _ = 0 + nthI (mi (mtK ms 0).xs) p
    omega
def addF (X : List Int) (p : Nat) (s : Int) : Int := s + nthI X p
def rndF (n : Nat) (_ : Nat) (s : Int) : Int := rndI s n
theorem sumL_succ {ms : List Mt} {k p : Nat} (hp : p = (mtK ms 0).xs.length) : updL (addF (mi (mtK ms k).xs)) (sumL ms k) p = sumL ms (k + 1) := by
  subst hp
  refine list_extI (by rw [updL_length, sumL_length, sumL_length]) fun j hj => ?_
  rw [updL_length, sumL_length] at hj
  rw [updL_nth (by rw [sumL_length]; exact hj), if_pos hj, sumL_nth hj, sumL_nth hj]
  rfl
theorem sumL_rnd {ms : List Mt} {p : Nat} (hp : p = (mtK ms 0).xs.length) : updL (rndF ms.length) (sumL ms ms.length) p = avL ms p := by
  subst hp
  refine list_extI (by rw [updL_length, sumL_length, avL_length]) fun j hj => ?_
  rw [updL_length, sumL_length] at hj
  rw [updL_nth (by rw [sumL_length]; exact hj), if_pos hj, sumL_nth hj, avL, nthI_map _ hj]
  rfl
theorem mx_nat {el : Int} {xs : List Nat} (h : (mxC el xs).2 = 0) : ∃ n : Nat, el = (n : Int) ∧ 1 ≤ n ∧ xs.length = n * n * 64 := by
  obtain ⟨h1, h2, _⟩ := mxC_0 h
  obtain ⟨n, rfl⟩ := Int.eq_ofNat_of_zero_le (show 0 ≤ el by omega)
  have e : ((n * n : Nat) : Int) = (n : Int) * (n : Int) := Int.natCast_mul _ _
  exact ⟨n, rfl, by omega, by omega⟩
/-- A loop whose first round is walked alone. -/
theorem c_loopP {P : Program} {Q : Exit → Act → World → Prop} {a : Act} {w : World} {c : Code} (I0 I : Nat → Act → World → Prop) (i0 : Nat) (h0 : I0 i0 a w) (first : ∀ i a w, I0 i a w → c.wp P (Exit.then (fun a' w' => ∃ j, (I0 j a' w' ∨ I j a' w') ∧ j < i) Q) a w) (round : ∀ i a w, I i a w → c.wp P (Exit.then (fun a' w' => ∃ j, (I0 j a' w' ∨ I j a' w') ∧ j < i) Q) a w) : (Code.loop c).wp P Q a w :=
  c_loopN (fun i a w => I0 i a w ∨ I i a w) i0 (.inl h0) fun i a w h => by
    rcases h with h | h
    · exact first i a w h
    · exact round i a w h
end Go.Proofs.Ytcijkniijomcjaa
