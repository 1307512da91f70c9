import Derived.Test.YtnbimpkihpaldaaArr
import Derived.Test.YtnbimpkihpaldaaRow
/-! Slices whose elements are structs of ints, as flat lists of ints: that came in, or of the call's own. -/
namespace Go.Proofs.Ytnbimpkihpaldaa
open Go.RowKit Go.Cpl
theorem Addr.add_add (a : Addr) (i j : Nat) : (a.add i).add j = a.add (i + j) := by
  unfold Addr.add
  by_cases h1 : i = 0
  · subst h1; simp
  · by_cases h2 : j = 0
    · subst h2; simp [h1]
    · simp [h1, h2, Nat.add_assoc]
theorem rowI_reads2 {w : World} {base : Nat} {e : TypeId} {v : Value} {size m : Nat} {l : List Int} (h : w.ownsRow base e size v m (rowI l)) : l.length = m * size ∧ ∃ A cap, v = .slice A m cap ∧ IReads w A l := by
  have hl : l.length = m * size := by have := h.1; simpa [rowI] using this
  refine ⟨hl, ?_⟩
  rcases h.2 with ⟨rfl, rfl⟩ | ⟨g, cap, cur, rfl, _, hgg, _, _, _, ht⟩
  · exact ⟨none, 0, rfl, fun k hk => by omega⟩
  · refine ⟨_, cap, rfl, fun k hk => ⟨_, rfl, ?_⟩⟩
    rw [add_zero_off, Blk.cell (t := e) (cs := cur) hgg]
    exact cur_get ht (rowI_get hk)
theorem row_ir {w : World} {base : Nat} {e : TypeId} {A : Option Addr} {size m m' cap : Nat} {l : List Int} (h : w.ownsRow base e size (.slice A m cap) m' (rowI l)) : IReads w A l := by
  obtain ⟨_, A', cap', hv, hr⟩ := rowI_reads2 h
  cases hv
  exact hr
/-- A struct, read cell by cell. -/
def flat (l : List Int) (k s : Nat) : List Value := (List.range s).map fun i => .int .i64 (nthI l (k + i))
theorem flat_reads {w : World} {ad : Addr} {l : List Int} (h : IReads w (some ad) l) {k s : Nat} (hk : k + s ≤ l.length) : ∀ j v, (flat l k s)[j]? = some v → w.cell? ((ad.add k).add j) = some v := by
  intro j v hv
  unfold flat at hv
  rw [List.getElem?_map] at hv
  cases hj : (List.range s)[j]? with
  | none => rw [hj] at hv; cases hv
  | some i =>
    rw [hj] at hv
    simp only [Option.map_some, Option.some.injEq] at hv
    have hjs : j < s := by
      rcases Nat.lt_or_ge j s with q | q
      · exact q
      · rw [List.getElem?_eq_none (by simpa using q)] at hj; cases hj
    rw [List.getElem?_range hjs] at hj
    obtain rfl := Option.some.inj hj
    subst hv
    obtain ⟨ad', e, hc⟩ := h (k + j) (by omega)
    obtain rfl := Option.some.inj e
    rw [Addr.add_add]
    exact hc
section
variable {P : Program} {ops : Array Oper} {Q : Exit → Act → World → Prop} {n : Sz} {a : Act} {w0 : Base} {w : World} {F : Fm} {L : List Bk} {M : List Rw} {rest : List Oper}
theorem run_loadVar_list {w : World} {ad : Addr} {ty : TypeId} {cs : List Value} {d : TypeDesc} (hc : ∀ j v, cs[j]? = some v → w.cell? (ad.add j) = some v)
    (hu : P.underlying ty = some d) (hd : d.isRow = true) (hi : (P.info? ty).map (·.size) = some cs.length) : (loadVar ty ad).run P w = .ok (.agg cs.toArray) w := by
  have hl : (loadCells ad cs.length).run P w = .ok cs.toArray w := run_loadCells_list (P := P) w ad cs hc
  cases hq : P.info? ty with
  | none => simp [hq] at hi
  | some i =>
    have hs : i.size = cs.length := by simpa [hq] using hi
    have hagg : (isAgg ty).run P w = .ok true w := by
      unfold isAgg
      rw [Sem.run_bind, run_underlying hu w]
      cases d <;> simp_all
    simp [loadVar, Sem.run_bind, hagg, sizeOf, typeInfo, hq, hs, hl]
/-- A struct of s ints. -/
def rowType (P : Program) (ty : TypeId) (s : Nat) : Bool :=
  match P.underlying ty with
  | some d => d.isRow && decide ((P.info? ty).map (·.size) = some s)
  | none => false
theorem rowType_spec {ty : TypeId} {s : Nat} (h : rowType P ty s = true) : ∃ d, P.underlying ty = some d ∧ d.isRow = true ∧ (P.info? ty).map (·.size) = some s := by
  unfold rowType at h
  cases hu : P.underlying ty with
  | none => rw [hu] at h; cases h
  | some d =>
    rw [hu] at h
    simp only [Bool.and_eq_true, decide_eq_true_eq] at h
    exact ⟨d, rfl, h.1, h.2⟩
theorem flat_length (l : List Int) (k s : Nat) : (flat l k s).length = s := by simp [flat]
/-- A struct of a slice that came in. -/
theorem g_loadXS {ty : TypeId} {x : Operand} {ad : Addr} {l : List Int} {k : Nat} (s : Nat) {v : Value} (hx : evO F x = some (.pointer (some (ad.add k)))) (hr : IReads w0.w (some ad) l) (hk : k + s ≤ l.length) (ht : rowType P ty s = true) (hv : v = .agg (flat l k s).toArray) : Gives P F w0 L M (.load ty x) v := fun _ _ w hA hS _ _ _ _ _ => by
  subst hv
  obtain ⟨d, hu, hd, hi⟩ := rowType_spec ht
  have h1 := flat_reads (hr.kept hS.kp) hk
  simp only [execOp, hA.ev hx, Instr.loadAt, Instr.sureAddr, Sem.run_bind, Sem.run_pure, Result.andThen_ok, run_loadVar_list h1 hu hd (by rw [hi, flat_length])]
/-- An int of such a slice. -/
theorem g_loadXI {ty : TypeId} {x : Operand} {ad : Addr} {l : List Int} {k : Nat} (hx : evO F x = some (.pointer (some (ad.add k)))) (hr : IReads w0.w (some ad) l) (hk : k < l.length) (hs : scalar P ty = true) : Gives P F w0 L M (.load ty x) (.int .i64 (nthI l k)) := by
  obtain ⟨ad', e, hc⟩ := hr k hk
  obtain rfl := Option.some.inj e
  exact g_loadX hx hc hs
/-- A struct, or an int, of a slice of the call's own. -/
theorem g_loadRS {ty : TypeId} {x : Operand} {ad : Addr} {l : List Int} {k : Nat} (j s : Nat) {v : Value} {e : TypeId} {size m m' cap : Nat} (hx : evO F x = some (.pointer (some (ad.add k)))) (hj : M[j]? = some ⟨.slice (some ad) m cap, e, size, m', rowI l⟩) (hk : k + s ≤ l.length) (ht : rowType P ty s = true) (hv : v = .agg (flat l k s).toArray) : Gives P F w0 L M (.load ty x) v := fun _ _ w hA hS _ _ _ _ _ => by
  subst hv
  obtain ⟨d, hu, hd, hi⟩ := rowType_spec ht
  have h1 := flat_reads (row_ir (hS.row j hj)) hk
  simp only [execOp, hA.ev hx, Instr.loadAt, Instr.sureAddr, Sem.run_bind, Sem.run_pure, Result.andThen_ok, run_loadVar_list h1 hu hd (by rw [hi, flat_length])]
theorem g_loadRI {ty : TypeId} {x : Operand} {ad : Addr} {l : List Int} {k : Nat} (j : Nat) {e : TypeId} {size m m' cap : Nat} (hx : evO F x = some (.pointer (some (ad.add k)))) (hj : M[j]? = some ⟨.slice (some ad) m cap, e, size, m', rowI l⟩) (hk : k < l.length) (hs : scalar P ty = true) : Gives P F w0 L M (.load ty x) (.int .i64 (nthI l k)) := fun _ _ w hA hS _ _ _ _ _ => by
  obtain ⟨ad', e, h1⟩ := row_ir (hS.row j hj) k hk
  obtain rfl := Option.some.inj e
  have hi : (isAgg ty).run P w = .ok false w := by
    unfold scalar at hs
    unfold isAgg
    cases hu : P.underlying ty with
    | none => rw [hu] at hs; cases hs
    | some d => rw [hu] at hs; rw [Sem.run_bind, run_underlying hu]; cases d <;> first | rfl | cases hs
  have hl : (loadVar ty (ad.add k)).run P w = .ok (.int .i64 (nthI l k)) w := by
    unfold loadVar
    rw [Sem.run_bind, hi]
    simp only [Result.andThen_ok]
    rw [if_neg (by decide), run_load, h1]
  simp only [execOp, hA.ev hx, Instr.loadAt, Instr.sureAddr, Sem.run_bind, Sem.run_pure, Result.andThen_ok, hl]
/-- The place of an element, and of a field. -/
theorem ix_xs {t : TypeId} {ad : Addr} {m c e size : Nat} {bytes : Nat} {i : Int} (k : Nat) (he : elemInfo P t = some (e, size, bytes)) (hi : i = (k : Int)) (hk : k < m) (w : World) : (Instr.indexAt t (.slice (some ad) m c) (.int .i64 i)).run P w = .ok (.pointer (some (ad.add (k * size)))) w := by
  obtain ⟨ti, z, q1, q2, q3, q4, q5, q6, q7⟩ := elemInfo_spec he
  subst hi
  simp [Instr.indexAt, asIntOf, run_underlying q1, sizeOf, typeInfo, q2, q4]
  intro h; omega
/-- A field that is not empty lies so many cells on. -/
def fieldOff (P : Program) (t : TypeId) (i : Nat) : Option Nat :=
  match P.underlying t with
  | some (.struct fs) => match fs[i]? with
    | some f => match P.info? f.type with
      | some ti => if ti.size = 0 then none else some f.offset
      | none => none
    | none => none
  | _ => none
theorem fld_x {t : TypeId} {ad : Addr} {x o i : Nat} (h : fieldOff P t i = some o) (w : World) : (Instr.fieldAt t (.pointer (some (ad.add x))) i).run P w = .ok (.pointer (some (ad.add (x + o)))) w := by
  unfold fieldOff at h
  split at h
  · rename_i fs hu
    split at h
    · rename_i f hf
      split at h
      · rename_i ti hti
        split at h
        · cases h
        · rename_i hz
          obtain rfl := Option.some.inj h
          have hf' := hf
          simp [Instr.fieldAt, run_underlying hu, hf, Instr.sureAddr, fieldPlace, sizeOf, typeInfo, hti, hz, Addr.add_add]
      · cases h
    · cases h
  · cases h
/-- A field of a struct by value. -/
theorem s_callRT {d : Nat} {f : FuncId} {fx : Operand} {args : List Operand} {ats : Array TypeId} {ty : TypeId} {pos : String} {aft : Array Edge} {fs cp : Array Value} {r : List (Nat × Value)} (av : Array Value) {e : TypeId} {size m : Nat} {xs : List Value} {u : Value} (hA : Fr n a F) (hS : St w0 L M w)
    (hc : Calls P f av w fun en w' => ∃ v, en = .returned (.tuple #[v, u]) ∧ Below w.heap.size w w' ∧ w'.ownsRow w.heap.size e size v m xs) (hcall : ∀ (vs : Array Value) (w : World), (callFunc f vs).run P w = .ok (.enter f vs) w)
    (hf : evO F fx = some (.func (.func f) fs cp)) (hr : evL F (args.map fun x => (0, x)) = some r) (hav : fs ++ (r.map (·.2)).toArray ++ cp = av) (hd : Nat.blt d n = true)
    (k : ∀ v a' w', Fr n a' ((d, .tuple #[v, u]) :: F) → St w0 L (⟨v, e, size, m, xs⟩ :: M) w' → wpList P ops Q rest a' w') : wpList P ops Q (⟨some d, .call ⟨.value fx, args.toArray, ats⟩, ty, pos, aft, none⟩ :: rest) a w := by
  refine wpList_plain rfl fun K hK => ?_
  unfold Oper.wp
  rw [run_call hA hf hr hav hcall]
  refine hc.mono fun en w' ⟨v, he, hb, ho⟩ => ?_
  subst he
  exact hK _ _ (k v _ w' (hA.put (blt_lt hd) _) (hS.gotRow hb ho))
theorem rs_callRT {Ls : List Bk} {Ms : List Rw} {fuel : Nat} {listed : Array Bool} {i d : Nat} {f : FuncId} {fx : Operand} {args : List Operand} {ats : Array TypeId} {ty : TypeId} {pos : String} {aft : Array Edge} {gd : Option (Nat × Bool)} {fs cp : Array Value} {r : List (Nat × Value)} (av : Array Value) {e : TypeId} {size m : Nat} {xs : List Value} {u : Value} (hA : Fr n a F) (hS : St w0 L M w) (hsub : Ls.Sublist L) (hsm : Ms.Sublist M)
    (hc : Calls P f av w fun en w' => ∃ v, en = .returned (.tuple #[v, u]) ∧ Below w.heap.size w w' ∧ w'.ownsRow w.heap.size e size v m xs) (hcall : ∀ (vs : Array Value) (w : World), (callFunc f vs).run P w = .ok (.enter f vs) w)
    (hi : ops[i]? = some ⟨some d, .call ⟨.value fx, args.toArray, ats⟩, ty, pos, aft, gd⟩) (hw : Region.wanted ⟨some d, .call ⟨.value fx, args.toArray, ats⟩, ty, pos, aft, gd⟩ (yielded ops a.tmps) = true)
    (hf : evO F fx = some (.func (.func f) fs cp)) (hr : evL F (args.map fun x => (0, x)) = some r) (hav : fs ++ (r.map (·.2)).toArray ++ cp = av) (hd : Nat.blt d n = true)
    (k : ∀ v a' w', Fr n a' ((d, .tuple #[v, u]) :: F) → St w0 L (⟨v, e, size, m, xs⟩ :: M) w' → wpAnyH P .any ops Q (St w0 Ls Ms) fuel (listed.setIfInBounds i true) a' w') : RS P ops Q (St w0 Ls Ms) fuel listed a w i := by
  refine rs_of hi hw ?_
  unfold Oper.wp
  rw [run_call hA hf hr hav hcall]
  refine hc.mono fun en w' ⟨v, he, hb, ho⟩ => ?_
  subst he
  have hn := hS.gotRow hb ho
  exact ⟨(hS.kept hb).sub hsub hsm, k v _ w' (hA.put (blt_lt hd) _) hn⟩
/-- The end of a function that returns a slice of its own, and an int. -/
theorem finRT {fn : Func} {R : Ending → World → Prop} {p q : Nat} (j : Nat) (v u : Value) {e : TypeId} {size m : Nat} {xs : List Value} (hres : fn.results = #[.tmp p, .tmp q]) {m0 : Nat} (hA : Fr ⟨m0, []⟩ a F) (hS : St w0 L M w) (h : Go.Cpl.look F p = some v) (h2 : Go.Cpl.look F q = some u) (hj : M[j]? = some ⟨v, e, size, m, xs⟩) (hR : ∀ w', Below w0.w.heap.size w0.w w' → w'.ownsRow w0.w.heap.size e size v m xs → R (.returned (.tuple #[v, u])) w') : bodyPost P fn R .ret a w :=
  fin2 v u hres hA hS (rv_tmp h) (rv_tmp h2) (hR w hS.kp (hS.row j hj))
end
theorem rowI_app (l k : List Int) : rowI l ++ rowI k = rowI (l ++ k) := by simp [rowI]
end Go.Proofs.Ytnbimpkihpaldaa
