/- '==' between structs and arrays of ints. -/
import Derived.Test.YtnbimpkihpaldaaArr
import Derived.Laws.StructEq
import Derived.ChangeKeysEq
namespace Go.Proofs.Ytnbimpkihpaldaa
open Go.RowKit Go.Cpl
section
variable {P : Program}

theorem part_int {e : TypeId} {l : List Int} {k : Nat} (he : P.underlying e = some (.int .i64)) (hk : k < l.length) (w : World) : (part e (ints l) k).run P w = .ok (.int .i64 (nthI l k)) w := by
  simp [part, isAgg, run_underlying he, ints_get hk]
/-- A struct whose fields are ints, one behind the other. -/
def flatFs (P : Program) : List Field → Nat → Bool
  | [], _ => true
  | f :: fs, i => (f.name != "_") && (Nat.beq f.offset i && ((match P.underlying f.type with | some (.int .i64) => true | _ => false) && flatFs P fs (i + 1)))
theorem eqFields_ints (d : Nat) (l l' : List Int) (w : World) : ∀ (fs : List Field) (i : Nat), flatFs P fs i = true → i + fs.length = l.length → l'.length = l.length →
    (Op.eqFields (d + 1) (ints l) (ints l') fs).run P w = .ok (decide (l.drop i = l'.drop i)) w
  | [], i, _, hl, hl' => by
    rw [List.drop_eq_nil_of_le (by simp at hl; omega), List.drop_eq_nil_of_le (by simp at hl; omega)]
    simp [Op.eqFields]
  | f :: fs, i, h, hl, hl' => by
    simp only [flatFs, Bool.and_eq_true, bne_iff_ne, ne_eq] at h
    obtain ⟨h1, h2, h3, h4⟩ := h
    have h2' := Nat.eq_of_beq_eq_true h2
    have hi : i < l.length := by simp at hl; omega
    have hi' : i < l'.length := by omega
    have hu : P.underlying f.type = some (.int .i64) := by
      split at h3
      · assumption
      · cases h3
    have ih := eqFields_ints d l l' w fs (i + 1) h4 (by simp at hl; omega) hl'
    simp only [Op.eqFields, if_pos (show f.name ≠ "_" from h1), Sem.run_bind, h2', part_int hu hi, part_int hu hi', Result.andThen_ok, run_equalIn_int w d f.type .i64 .i64 _ _ hu]
    have key : l.drop i = l'.drop i ↔ (l[i] = l'[i] ∧ l.drop (i + 1) = l'.drop (i + 1)) := by
      rw [List.drop_eq_getElem_cons hi, List.drop_eq_getElem_cons hi', List.cons.injEq]
    rw [nthI_eq hi, nthI_eq hi']
    by_cases e : l[i] = l'[i]
    · simp only [e, beq_self_eq_true, Bool.not_true, Bool.false_eq_true, if_false, ih]
      congr 1
      rw [decide_eq_decide, key]
      exact ⟨fun h => ⟨e, h⟩, fun h => h.2⟩
    · have e' : (l[i] == l'[i]) = false := by simpa using e
      simp only [e', Bool.not_false, if_true, Sem.run_pure]
      congr 1
      exact (decide_eq_false fun h => e (key.1 h).1).symm
def flatS (P : Program) (t : TypeId) (n : Nat) : Bool :=
  (match P.underlying t with | some (.struct _) => true | _ => false) && (!P.stoodInHeld t && (flatFs P (P.fieldsOf t).toList 0 && Nat.beq (P.fieldsOf t).toList.length n))
theorem flatS_spec {t : TypeId} {n : Nat} (h : flatS P t n = true) : P.underlying t = some (.struct (P.fieldsOf t)) ∧ P.stoodInHeld t = false ∧ flatFs P (P.fieldsOf t).toList 0 = true ∧ (P.fieldsOf t).toList.length = n := by
  simp only [flatS, Bool.and_eq_true, Bool.not_eq_true'] at h
  obtain ⟨h1, h2, h3, h4⟩ := h
  refine ⟨?_, h2, h3, Nat.eq_of_beq_eq_true h4⟩
  unfold Program.fieldsOf
  split at h1
  · rename_i fs hu; rw [hu]
  · cases h1
theorem q_struct {t : TypeId} {n : Nat} (l l' : List Int) (h : flatS P t n = true) (hl : l.length = n) (hl' : l'.length = n) (w : World) : (binOp .eql t (.agg (ints l)) (.agg (ints l'))).run P w = .ok (.bool (decide (l = l'))) w := by
  obtain ⟨h1, h2, h3, h4⟩ := flatS_spec h
  rw [run_eql_struct, run_equalIn_struct w 9999 t _ _ h1 h2, eqFields_ints 9998 l l' w _ 0 h3 (by omega) (by omega)]
  rfl
theorem q_structN {t : TypeId} {n : Nat} (l l' : List Int) (h : flatS P t n = true) (hl : l.length = n) (hl' : l'.length = n) (w : World) : (binOp .neq t (.agg (ints l)) (.agg (ints l'))).run P w = .ok (.bool (decide (l ≠ l'))) w := by
  obtain ⟨h1, h2, h3, h4⟩ := flatS_spec h
  rw [run_neq_struct, run_equalIn_struct w 9999 t _ _ h1 h2, eqFields_ints 9998 l l' w _ 0 h3 (by omega) (by omega)]
  by_cases e : l = l' <;> simp [e]
/-- An array of n ints. -/
def flatA (P : Program) (t : TypeId) (n : Nat) : Bool :=
  match P.underlying t with
  | some (.array m e) => Nat.beq m n && ((P.info? e).isSome && (Nat.beq (P.cellsOf e) 1 && (match P.underlying e with | some (.int .i64) => true | _ => false)))
  | _ => false
theorem eqItems_ints (d : Nat) {e : TypeId} (he : P.underlying e = some (.int .i64)) (l l' : List Int) (w : World) : ∀ (is : List Nat), (∀ i ∈ is, i < l.length ∧ i < l'.length) →
    (Op.eqItems (d + 1) e 1 (ints l) (ints l') is).run P w = .ok (is.all fun i => decide (nthI l i = nthI l' i)) w
  | [], _ => by simp [Op.eqItems]
  | i :: is, h => by
    have hi := h i (List.mem_cons_self ..)
    have ih := eqItems_ints d he l l' w is (fun j hj => h j (List.mem_cons_of_mem _ hj))
    simp only [Op.eqItems, Sem.run_bind, Nat.mul_one, part_int he hi.1, part_int he hi.2, Result.andThen_ok, run_equalIn_int w d e .i64 .i64 _ _ he]
    by_cases q : nthI l i = nthI l' i
    · simp [q, ih]
    · simp [q]
theorem eq_of_nthI {l l' : List Int} {n : Nat} (hl : l.length = n) (hl' : l'.length = n) : ((List.range n).all fun i => decide (nthI l i = nthI l' i)) = decide (l = l') := by
  rw [Bool.eq_iff_iff]
  simp only [List.all_eq_true, List.mem_range, decide_eq_true_eq]
  constructor
  · intro h
    apply List.ext_getElem (by omega)
    intro i h1 h2
    have := h i (by omega)
    rw [nthI_eq h1, nthI_eq h2] at this
    exact this
  · intro h i _; rw [h]
theorem q_array {t : TypeId} {n : Nat} (l l' : List Int) (h : flatA P t n = true) (hl : l.length = n) (hl' : l'.length = n) (w : World) : (binOp .eql t (.agg (ints l)) (.agg (ints l'))).run P w = .ok (.bool (decide (l = l'))) w := by
  unfold flatA at h
  split at h
  · rename_i m e hu
    simp only [Bool.and_eq_true] at h
    obtain ⟨h1, h2, h3, h4⟩ := h
    have h1' := Nat.eq_of_beq_eq_true h1
    have h3' := Nat.eq_of_beq_eq_true h3
    obtain ⟨ti, hi⟩ := Option.isSome_iff_exists.1 h2
    have he : P.underlying e = some (.int .i64) := by
      split at h4
      · assumption
      · cases h4
    subst h1'
    rw [run_eql_struct, run_equalIn_array w 9999 _ _ hu hi, h3', eqItems_ints 9998 he l l' w (List.range m) (fun i hi => by rw [List.mem_range] at hi; omega), eq_of_nthI hl hl']
    rfl
  · cases h
theorem q_arrayN {t : TypeId} {n : Nat} (l l' : List Int) (h : flatA P t n = true) (hl : l.length = n) (hl' : l'.length = n) (w : World) : (binOp .neq t (.agg (ints l)) (.agg (ints l'))).run P w = .ok (.bool (decide (l ≠ l'))) w := by
  unfold flatA at h
  split at h
  · rename_i m e hu
    simp only [Bool.and_eq_true] at h
    obtain ⟨h1, h2, h3, h4⟩ := h
    have h1' := Nat.eq_of_beq_eq_true h1
    have h3' := Nat.eq_of_beq_eq_true h3
    obtain ⟨ti, hi⟩ := Option.isSome_iff_exists.1 h2
    have he : P.underlying e = some (.int .i64) := by
      split at h4
      · assumption
      · cases h4
    subst h1'
    rw [run_neq_struct, run_equalIn_array w 9999 _ _ hu hi, h3', eqItems_ints 9998 he l l' w (List.range m) (fun i hi => by rw [List.mem_range] at hi; omega), eq_of_nthI hl hl']
    by_cases e : l = l' <;> simp [e]
  · cases h
end
end Go.Proofs.Ytnbimpkihpaldaa
