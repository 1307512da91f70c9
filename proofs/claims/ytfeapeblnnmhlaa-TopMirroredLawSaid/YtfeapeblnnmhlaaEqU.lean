/- '==' between structs of unsigned ints. -/
import Derived.Test.YtfeapeblnnmhlaaArr
import Derived.Laws.StructEq
import Derived.ChangeKeysEq
namespace Go.Proofs.Ytfeapeblnnmhlaa
open Go.RowKit Go.Cpl
section
variable {P : Program}
def intsU (l : List Int) : Array Value := (l.map (Value.int .u64)).toArray
theorem intsU_get {l : List Int} {k : Nat} (h : k < l.length) : (intsU l)[k]? = some (.int .u64 (nthI l k)) := by
  simp [intsU, nthI_eq h, h]
theorem part_intU {e : TypeId} {l : List Int} {k : Nat} (he : P.underlying e = some (.int .u64)) (hk : k < l.length) (w : World) : (part e (intsU l) k).run P w = .ok (.int .u64 (nthI l k)) w := by
  simp [part, isAgg, run_underlying he, intsU_get hk]
/-- A struct whose fields are intsU, one behind the other. -/
def flatFsU (P : Program) : List Field → Nat → Bool
  | [], _ => true
  | f :: fs, i => (f.name != "_") && (Nat.beq f.offset i && ((match P.underlying f.type with | some (.int .u64) => true | _ => false) && flatFsU P fs (i + 1)))
theorem eqFields_intsU (d : Nat) (l l' : List Int) (w : World) : ∀ (fs : List Field) (i : Nat), flatFsU P fs i = true → i + fs.length = l.length → l'.length = l.length →
    (Op.eqFields (d + 1) (intsU l) (intsU l') fs).run P w = .ok (decide (l.drop i = l'.drop i)) w
  | [], i, _, hl, hl' => by
    rw [List.drop_eq_nil_of_le (by simp at hl; omega), List.drop_eq_nil_of_le (by simp at hl; omega)]
    simp [Op.eqFields]
  | f :: fs, i, h, hl, hl' => by
    simp only [flatFsU, Bool.and_eq_true, bne_iff_ne, ne_eq] at h
    obtain ⟨h1, h2, h3, h4⟩ := h
    have h2' := Nat.eq_of_beq_eq_true h2
    have hi : i < l.length := by simp at hl; omega
    have hi' : i < l'.length := by omega
    have hu : P.underlying f.type = some (.int .u64) := by
      split at h3
      · assumption
      · cases h3
    have ih := eqFields_intsU d l l' w fs (i + 1) h4 (by simp at hl; omega) hl'
    simp only [Op.eqFields, if_pos (show f.name ≠ "_" from h1), Sem.run_bind, h2', part_intU hu hi, part_intU hu hi', Result.andThen_ok, run_equalIn_int w d f.type .u64 .u64 _ _ hu]
    have key : l.drop i = l'.drop i ↔ (l[i] = l'[i] ∧ l.drop (i + 1) = l'.drop (i + 1)) := by
      rw [List.drop_eq_getElem_cons hi, List.drop_eq_getElem_cons hi', List.cons.injEq]
    rw [nthI_eq hi, nthI_eq hi']
    by_cases e : l[i] = l'[i]
    · simp only [e, beq_self_eq_true, Bool.not_true, Bool.false_eq_true, if_false, ih]
      congr 1
      rw [decide_eq_decide, key]
      exact ⟨fun h => ⟨e, h⟩, fun h => h.2⟩
    · have e' : (l[i] == l'[i]) = false := by simpa using e
      simp only [e', Bool.not_false, if_true, Sem.run_pure]
      congr 1
      exact (decide_eq_false fun h => e (key.1 h).1).symm
def flatSU (P : Program) (t : TypeId) (n : Nat) : Bool :=
  (match P.underlying t with | some (.struct _) => true | _ => false) && (!P.stoodInHeld t && (flatFsU P (P.fieldsOf t).toList 0 && Nat.beq (P.fieldsOf t).toList.length n))
theorem flatS_specU {t : TypeId} {n : Nat} (h : flatSU P t n = true) : P.underlying t = some (.struct (P.fieldsOf t)) ∧ P.stoodInHeld t = false ∧ flatFsU P (P.fieldsOf t).toList 0 = true ∧ (P.fieldsOf t).toList.length = n := by
  simp only [flatSU, Bool.and_eq_true, Bool.not_eq_true'] at h
  obtain ⟨h1, h2, h3, h4⟩ := h
  refine ⟨?_, h2, h3, Nat.eq_of_beq_eq_true h4⟩
  unfold Program.fieldsOf
  split at h1
  · rename_i fs hu; rw [hu]
  · cases h1
theorem q_structU {t : TypeId} {n : Nat} (l l' : List Int) (h : flatSU P t n = true) (hl : l.length = n) (hl' : l'.length = n) (w : World) : (binOp .eql t (.agg (intsU l)) (.agg (intsU l'))).run P w = .ok (.bool (decide (l = l'))) w := by
  obtain ⟨h1, h2, h3, h4⟩ := flatS_specU h
  rw [run_eql_struct, run_equalIn_struct w 9999 t _ _ h1 h2, eqFields_intsU 9998 l l' w _ 0 h3 (by omega) (by omega)]
  rfl
theorem q_structNU {t : TypeId} {n : Nat} (l l' : List Int) (h : flatSU P t n = true) (hl : l.length = n) (hl' : l'.length = n) (w : World) : (binOp .neq t (.agg (intsU l)) (.agg (intsU l'))).run P w = .ok (.bool (decide (l ≠ l'))) w := by
  obtain ⟨h1, h2, h3, h4⟩ := flatS_specU h
  rw [run_neq_struct, run_equalIn_struct w 9999 t _ _ h1 h2, eqFields_intsU 9998 l l' w _ 0 h3 (by omega) (by omega)]
  by_cases e : l = l' <;> simp [e]
end
end Go.Proofs.Ytfeapeblnnmhlaa
