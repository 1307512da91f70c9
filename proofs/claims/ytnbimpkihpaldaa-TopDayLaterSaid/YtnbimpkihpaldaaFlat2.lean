import Derived.Test.YtnbimpkihpaldaaFlat
/-! A slice of structs of ints that came in, appended to one of the call's own. -/
namespace Go.Proofs.Ytnbimpkihpaldaa
open Go.RowKit Go.Cpl
section
variable {P : Program} {ops : Array Oper} {Q : Exit → Act → World → Prop} {n : Sz} {a : Act} {w0 : Base} {w : World} {F : Fm} {L : List Bk} {M : List Rw} {rest : List Oper}
/-- A slice that came in, nil let in, behind one of the call's own. -/
theorem run_appendX {t e : TypeId} {ti : TypeInfo} {z : Value} {size bytes : Nat} (ht : P.underlying t = some (.slice e)) (hi : P.info? e = some ti) (hz : ti.zero = some z) (hsize : ti.size = size) (hby : ti.bytes = bytes) (hzs : z.cells.size = size) (hsz : 0 < size)
    (hS : St w0 L M w) (j : Nat) {v : Value} {m : Nat} {xs : List Value} (hj : M[j]? = some ⟨v, e, size, m, xs⟩) {A : Option Addr} {m' c : Nat} {l : List Int} (hr : IReads w A l) (hl : l.length = m' * size)
    (h63 : m + m' ≤ maxLen) (hbytes : (m + m') * bytes ≤ 140737488355328) (ty : TypeId) :
    ∃ v' w', (Builtin.append_ #[t, t] ty #[v, .slice A m' c]).run P w = .ok v' w' ∧ St w0 L (M.set j ⟨v', e, size, m + m', xs ++ rowI l⟩) w' := by
  cases A with
  | some ad =>
    refine run_append_st ht hi hz hsize hby hzs hsz hS j hj (by simpa [rowI] using hl) ?_ ?_ h63 hbytes ty
    · intro k u hu
      unfold rowI at hu
      rw [List.getElem?_map] at hu
      cases hk : l[k]? with
      | none => rw [hk] at hu; cases hu
      | some x =>
        rw [hk] at hu
        simp only [Option.map_some, Option.some.injEq] at hu
        subst hu
        have hkl : k < l.length := by
          rcases Nat.lt_or_ge k l.length with q | q
          · exact q
          · rw [List.getElem?_eq_none q] at hk; cases hk
        obtain ⟨ad', e', hc⟩ := hr k hkl
        obtain rfl := Option.some.inj e'
        rw [hc, nthI_eq hkl]
        rw [List.getElem?_eq_getElem hkl] at hk
        rw [Option.some.inj hk]
    · intro u hu
      simp only [rowI, List.mem_map] at hu
      obtain ⟨x, _, rfl⟩ := hu
      rfl
  | none =>
    have h0 : l.length = 0 := by
      rcases Nat.eq_zero_or_pos l.length with q | q
      · exact q
      · obtain ⟨ad, e', _⟩ := hr 0 q; cases e'
    have hm' : m' = 0 := by
      rcases Nat.eq_zero_or_pos m' with q | q
      · exact q
      · have := Nat.mul_pos q hsz; omega
    obtain rfl := List.eq_nil_of_length_eq_zero h0
    subst hm'
    have hown := hS.row j hj
    have hrun : (Builtin.append_ #[t, t] ty #[v, .slice none 0 c]).run P w = .ok v w := by
      rcases hown.2 with ⟨hv, _⟩ | ⟨g, cap, cur, hv, _, _, hnc, _, _, _⟩
      · have hv : v = .slice none 0 0 := hv
        subst hv
        simp [Builtin.append_, run_underlying ht, sizeOf, typeInfo, hi, Builtin.lenOf, Builtin.firstCells]
      · have hv : v = .slice (some ⟨g, 0, none⟩) m cap := hv
        have hnc : m ≤ cap := hnc
        subst hv
        simp [Builtin.append_, run_underlying ht, sizeOf, typeInfo, hi, Builtin.lenOf, Builtin.firstCells, hnc, storeCells]
    refine ⟨v, w, hrun, ?_⟩
    have e2 : M.set j ⟨v, e, size, m + 0, xs ++ rowI []⟩ = M := by
      have hlt : j < M.length := by
        rcases Nat.lt_or_ge j M.length with q | q
        · exact q
        · rw [List.getElem?_eq_none q] at hj; cases hj
      rw [List.getElem?_eq_getElem hlt] at hj
      have : (⟨v, e, size, m + 0, xs ++ rowI []⟩ : Rw) = M[j] := by rw [Option.some.inj hj]; simp [rowI]
      rw [this, List.set_getElem_self]
    rw [e2]
    exact hS
theorem s_appendX {d : Nat} {s x : Operand} {t ty : TypeId} {pos : String} {aft : Array Edge} {e : TypeId} {size bytes m m' c : Nat} {v : Value} {xs : List Value} {A : Option Addr} {l : List Int} (j : Nat) (hA : Fr n a F) (hS : St w0 L M w) (he : elemInfo P t = some (e, size, bytes))
    (hs : evO F s = some v) (hx : evO F x = some (.slice A m' c)) (hj : M[j]? = some ⟨v, e, size, m, xs⟩) (hr : IReads w A l) (hl : l.length = m' * size)
    (h63 : (m + m') * 140737488355328 ≤ 140737488355328 * 140737488355328) (hbytes : (m + m') * bytes ≤ 140737488355328) (hd : Nat.blt d n = true)
    (k : ∀ v' a' w', Fr n a' ((d, v') :: F) → St w0 L (M.set j ⟨v', e, size, m + m', xs ++ rowI l⟩) w' → wpList P ops Q rest a' w') : wpList P ops Q (⟨some d, .call ⟨.builtin .append, #[s, x], #[t, t]⟩, ty, pos, aft, none⟩ :: rest) a w := by
  refine wpList_plain rfl fun K hK => ?_
  obtain ⟨ti, z, q1, q2, q3, q4, q5, q6, q7⟩ := elemInfo_spec he
  obtain ⟨v', w', hr', hS'⟩ := run_appendX q1 q2 q3 q4 q5 q6 q7 hS j hj (c := c) hr hl (by unfold maxLen; omega) hbytes ty
  unfold Oper.wp execOp
  simp only [resolve, invoke, builtin, Sem.run_bind, Sem.run_pure, Result.andThen_ok, List.map_toArray, List.map_cons, List.map_nil, hA.ev hs, hA.ev hx, hr']
  exact hK _ _ (k v' _ w' (hA.put (blt_lt hd) v') hS')
theorem rs_appendX {Ls : List Bk} {Ms : List Rw} {fuel : Nat} {listed : Array Bool} {d q : Nat} {s x : Operand} {t ty : TypeId} {pos : String} {aft : Array Edge} {gd : Option (Nat × Bool)} {e : TypeId} {size bytes m m' c : Nat} {v : Value} {xs : List Value} {A : Option Addr} {l : List Int} (j : Nat) (hA : Fr n a F) (hS : St w0 L M w) (hsub : Ls.Sublist L) (hsm : ∀ r : Rw, Ms.Sublist (M.set j r)) (he : elemInfo P t = some (e, size, bytes))
    (hs : evO F s = some v) (hx : evO F x = some (.slice A m' c)) (hj : M[j]? = some ⟨v, e, size, m, xs⟩) (hr : IReads w A l) (hl : l.length = m' * size)
    (h63 : (m + m') * 140737488355328 ≤ 140737488355328 * 140737488355328) (hbytes : (m + m') * bytes ≤ 140737488355328)
    (hq : ops[q]? = some ⟨some d, .call ⟨.builtin .append, #[s, x], #[t, t]⟩, ty, pos, aft, gd⟩) (hw : Region.wanted ⟨some d, .call ⟨.builtin .append, #[s, x], #[t, t]⟩, ty, pos, aft, gd⟩ (yielded ops a.tmps) = true) (hd : Nat.blt d n = true)
    (k : ∀ v' a' w', Fr n a' ((d, v') :: F) → St w0 L (M.set j ⟨v', e, size, m + m', xs ++ rowI l⟩) w' → wpAnyH P .any ops Q (St w0 Ls Ms) fuel (listed.setIfInBounds q true) a' w') : RS P ops Q (St w0 Ls Ms) fuel listed a w q := by
  refine rs_of hq hw ?_
  obtain ⟨ti, z, q1, q2, q3, q4, q5, q6, q7⟩ := elemInfo_spec he
  obtain ⟨v', w', hr', hS'⟩ := run_appendX q1 q2 q3 q4 q5 q6 q7 hS j hj (c := c) hr hl (by unfold maxLen; omega) hbytes ty
  unfold Oper.wp execOp
  simp only [resolve, invoke, builtin, Sem.run_bind, Sem.run_pure, Result.andThen_ok, List.map_toArray, List.map_cons, List.map_nil, hA.ev hs, hA.ev hx, hr']
  exact ⟨hS'.sub hsub (hsm _), k v' _ w' (hA.put (blt_lt hd) v') hS'⟩
end
end Go.Proofs.Ytnbimpkihpaldaa
