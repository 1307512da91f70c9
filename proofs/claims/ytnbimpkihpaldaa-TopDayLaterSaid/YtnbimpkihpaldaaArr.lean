/- Arrays and slices of numbers in the calculus of single steps. -/
import Derived.Test.YtnbimpkihpaldaaKit
import Derived.Test.YtnbimpkihpaldaaBase
namespace Go.Cpl
open Go.RowKit
section
variable {P : Program} {ops : Array Oper} {Q : Exit → Act → World → Prop} {n : Sz} {a : Act} {w0 : Base} {w : World} {F : Fm} {L : List Bk} {M : List Rw} {rest : List Oper}

/-- A type whose values are one cell. -/
def scalar (P : Program) (ty : TypeId) : Bool :=
  match P.underlying ty with
  | none => false
  | some (.struct _) | some (.array _ _) => false
  | some _ => true
theorem rv_of {ty : TypeId} {cs : Array Value} {k : Nat} {v : Value} (hs : scalar P ty = true) (h : cs[k]? = some v) : rowVal P ty cs k = some v := by
  unfold scalar at hs
  unfold rowVal
  cases hu : P.underlying ty with
  | none => rw [hu] at hs; cases hs
  | some d => rw [hu] at hs; cases d <;> first | exact h | cases hs
theorem pv_of {ty : TypeId} {cs : Array Value} {k : Nat} {v : Value} (hs : (P.info? ty).map (·.size) = some 1) (h1 : v.oneCell' = true) (hk : k < cs.size) : putVal P ty cs k v = some (cs.setIfInBounds k v) := by
  have hc : v.cells = #[v] := by cases v <;> first | rfl | (simp [Value.oneCell'] at h1)
  unfold putVal
  rw [hs, hc]
  simp only [List.all_cons, List.all_nil, h1, Bool.and_true, wr]
  rw [show Nat.beq (#[v] : Array Value).size 1 = true from rfl, show Nat.ble (k + 1) cs.size = true by rw [Nat.ble_eq]; omega]
  rfl

/-- The place of an element. -/
def arrLen (P : Program) (t : TypeId) : Option (Nat × Nat) :=
  match P.underlying t with
  | some (.array len e) => (P.info? e).map fun i => (len, i.size)
  | _ => none
theorem ix_arr {t : TypeId} {g o len size : Nat} {i : Int} (k : Nat) (hl : arrLen P t = some (len, size)) (hi : i = (k : Int)) (hk : k < len) (w : World) : (Instr.indexAt t (.pointer (some ⟨g, o, none⟩)) (.int .i64 i)).run P w = .ok (.pointer (some ⟨g, o + k * size, none⟩)) w := by
  unfold arrLen at hl
  split at hl
  · rename_i ln e hu
    cases hI : P.info? e with
    | none => rw [hI] at hl; cases hl
    | some ti =>
      rw [hI] at hl
      simp only [Option.map_some, Option.some.injEq, Prod.mk.injEq] at hl
      obtain ⟨rfl, rfl⟩ := hl
      subst hi
      simp [Instr.indexAt, asIntOf, run_underlying hu, Instr.sureAddr, sizeOf, typeInfo, hI, Addr.add_mid]
      intro h; omega
  · cases hl
theorem ix_arr1 {t : TypeId} {g len : Nat} {i : Int} (k : Nat) (hl : arrLen P t = some (len, 1)) (hi : i = (k : Int)) (hk : k < len) (w : World) : (Instr.indexAt t (.pointer (some ⟨g, 0, none⟩)) (.int .i64 i)).run P w = .ok (.pointer (some ⟨g, k, none⟩)) w := by
  rw [ix_arr k hl hi hk, Nat.zero_add, Nat.mul_one]
theorem ix_sl {t : TypeId} {g o m c e size : Nat} {bytes : Nat} {i : Int} (k : Nat) (he : elemInfo P t = some (e, size, bytes)) (hi : i = (k : Int)) (hk : k < m) (w : World) : (Instr.indexAt t (.slice (some ⟨g, o, none⟩) m c) (.int .i64 i)).run P w = .ok (.pointer (some ⟨g, o + k * size, none⟩)) w := by
  obtain ⟨ti, z, q1, q2, q3, q4, q5, q6, q7⟩ := elemInfo_spec he
  subst hi
  simp [Instr.indexAt, asIntOf, run_underlying q1, sizeOf, typeInfo, q2, q4, Addr.add_mid]
  intro h; omega
theorem ix_sl1 {t : TypeId} {g m c e : Nat} {bytes : Nat} {i : Int} (k : Nat) (he : elemInfo P t = some (e, 1, bytes)) (hi : i = (k : Int)) (hk : k < m) (w : World) : (Instr.indexAt t (.slice (some ⟨g, 0, none⟩) m c) (.int .i64 i)).run P w = .ok (.pointer (some ⟨g, k, none⟩)) w := by
  rw [ix_sl k he hi hk, Nat.zero_add, Nat.mul_one]
/-- Of a slice that came in. -/
theorem ix_x {t : TypeId} {ad : Addr} {m c e : Nat} {bytes : Nat} {i : Int} (k : Nat) (he : elemInfo P t = some (e, 1, bytes)) (hi : i = (k : Int)) (hk : k < m) (w : World) : (Instr.indexAt t (.slice (some ad) m c) (.int .i64 i)).run P w = .ok (.pointer (some (ad.add k))) w := by
  obtain ⟨ti, z, q1, q2, q3, q4, q5, q6, q7⟩ := elemInfo_spec he
  subst hi
  simp [Instr.indexAt, asIntOf, run_underlying q1, sizeOf, typeInfo, q2, q4]
  intro h; omega
theorem g_loadX {ty : TypeId} {x : Operand} {ad : Addr} {v : Value} (hx : evO F x = some (.pointer (some ad))) (hc : w0.w.cell? ad = some v) (hs : scalar P ty = true) : Gives P F w0 L M (.load ty x) v := fun _ _ w hA hS _ _ _ _ _ => by
  have h1 : w.cell? ad = some v := by rw [hS.kp.cell (World.block_lt_of_cell? w0.w ad hc)]; exact hc
  have hi : (isAgg ty).run P w = .ok false w := by
    unfold scalar at hs
    unfold isAgg
    cases hu : P.underlying ty with
    | none => rw [hu] at hs; cases hs
    | some d => rw [hu] at hs; rw [Sem.run_bind, run_underlying hu]; cases d <;> first | rfl | cases hs
  have hl : (loadVar ty ad).run P w = .ok v w := by
    unfold loadVar
    rw [Sem.run_bind, hi]
    simp only [Result.andThen_ok]
    rw [if_neg (by decide), run_load, h1]
  simp only [execOp, hA.ev hx, Instr.loadAt, Instr.sureAddr, Sem.run_bind, Sem.run_pure, Result.andThen_ok, hl]

/-- A call whose result is a slice in new memory. -/
theorem St.gotRow {w' : World} (h : St w0 L M w) (k : Below w.heap.size w w') {v : Value} {e : TypeId} {size m : Nat} {xs : List Value} (ho : w'.ownsRow w.heap.size e size v m xs) : St w0 L (⟨v, e, size, m, xs⟩ :: M) w' := by
  have h' := h.kept k
  have hlo : ∀ g, v.ownBlock = some g → w.heap.size ≤ g := fun g hg => (ho.lt g hg).1
  refine ⟨h'.kq, h'.blk, h'.own, h'.apart, fun r hr => ?_, fun r hr b hb => ?_, List.pairwise_cons.2 ⟨fun r hr => ?_, h'.rr⟩⟩
  · rcases List.mem_cons.1 hr with rfl | hr
    · refine ⟨ho.1, ?_⟩
      rcases ho.2 with hn | ⟨g, cap, cur, hv, hb, rest⟩
      · exact .inl hn
      · exact .inr ⟨g, cap, cur, hv, Nat.le_trans h.kp.size hb, rest⟩
    · exact h'.rows r hr
  · rcases List.mem_cons.1 hr with rfl | hr
    · intro e
      have := hlo _ e
      have := (h.blk b hb).lt
      omega
    · exact h'.rb r hr b hb
  · cases hv : v.ownBlock with
    | none => exact .inl rfl
    | some g =>
      refine .inr ?_
      intro e
      have := hlo g hv
      have := ((h.rows r hr).lt g e.symm).2
      omega
theorem s_callR {d : Nat} {f : FuncId} {fx : Operand} {args : List Operand} {ats : Array TypeId} {ty : TypeId} {pos : String} {aft : Array Edge} {fs cp : Array Value} {r : List (Nat × Value)} (av : Array Value) {e : TypeId} {size m : Nat} {xs : List Value} (hA : Fr n a F) (hS : St w0 L M w)
    (hc : Calls P f av w fun en w' => ∃ v, en = .returned v ∧ Below w.heap.size w w' ∧ w'.ownsRow w.heap.size e size v m xs) (hcall : ∀ (vs : Array Value) (w : World), (callFunc f vs).run P w = .ok (.enter f vs) w)
    (hf : evO F fx = some (.func (.func f) fs cp)) (hr : evL F (args.map fun x => (0, x)) = some r) (hav : fs ++ (r.map (·.2)).toArray ++ cp = av) (hd : Nat.blt d n = true)
    (k : ∀ v a' w', Fr n a' ((d, v) :: F) → St w0 L (⟨v, e, size, m, xs⟩ :: M) w' → wpList P ops Q rest a' w') : wpList P ops Q (⟨some d, .call ⟨.value fx, args.toArray, ats⟩, ty, pos, aft, none⟩ :: rest) a w := by
  refine wpList_plain rfl fun K hK => ?_
  unfold Oper.wp
  rw [run_call hA hf hr hav hcall]
  refine hc.mono fun en w' ⟨v, he, hb, ho⟩ => ?_
  subst he
  exact hK _ _ (k v _ w' (hA.put (blt_lt hd) _) (hS.gotRow hb ho))
theorem rs_callR {Ls : List Bk} {Ms : List Rw} {fuel : Nat} {listed : Array Bool} {i d : Nat} {f : FuncId} {fx : Operand} {args : List Operand} {ats : Array TypeId} {ty : TypeId} {pos : String} {aft : Array Edge} {gd : Option (Nat × Bool)} {fs cp : Array Value} {r : List (Nat × Value)} (av : Array Value) {e : TypeId} {size m : Nat} {xs : List Value} (hA : Fr n a F) (hS : St w0 L M w) (hsub : Ls.Sublist L) (hsm : Ms.Sublist M)
    (hc : Calls P f av w fun en w' => ∃ v, en = .returned v ∧ Below w.heap.size w w' ∧ w'.ownsRow w.heap.size e size v m xs) (hcall : ∀ (vs : Array Value) (w : World), (callFunc f vs).run P w = .ok (.enter f vs) w)
    (hi : ops[i]? = some ⟨some d, .call ⟨.value fx, args.toArray, ats⟩, ty, pos, aft, gd⟩) (hw : Region.wanted ⟨some d, .call ⟨.value fx, args.toArray, ats⟩, ty, pos, aft, gd⟩ (yielded ops a.tmps) = true)
    (hf : evO F fx = some (.func (.func f) fs cp)) (hr : evL F (args.map fun x => (0, x)) = some r) (hav : fs ++ (r.map (·.2)).toArray ++ cp = av) (hd : Nat.blt d n = true)
    (k : ∀ v a' w', Fr n a' ((d, v) :: F) → St w0 L (⟨v, e, size, m, xs⟩ :: M) w' → wpAnyH P .any ops Q (St w0 Ls Ms) fuel (listed.setIfInBounds i true) a' w') : RS P ops Q (St w0 Ls Ms) fuel listed a w i := by
  refine rs_of hi hw ?_
  unfold Oper.wp
  rw [run_call hA hf hr hav hcall]
  refine hc.mono fun en w' ⟨v, he, hb, ho⟩ => ?_
  subst he
  have hn := hS.gotRow hb ho
  exact ⟨(hS.kept hb).sub hsub hsm, k v _ w' (hA.put (blt_lt hd) _) hn⟩
/-- The end of a function whose result is a slice of its own. -/
theorem finR {fn : Func} {R : Ending → World → Prop} {p : Nat} (j : Nat) (v : Value) {e : TypeId} {size m : Nat} {xs : List Value} (hres : fn.results = #[.tmp p]) {m0 : Nat} (hA : Fr ⟨m0, []⟩ a F) (hS : St w0 L M w) (h : look F p = some v) (hj : M[j]? = some ⟨v, e, size, m, xs⟩) (hR : ∀ w', Below w0.w.heap.size w0.w w' → w'.ownsRow w0.w.heap.size e size v m xs → R (.returned v) w') : bodyPost P fn R .ret a w :=
  fin1 v hres hA hS h (hR w hS.kp (hS.row j hj))
/-- An append in a region that draws. -/
theorem rs_append {Ls : List Bk} {Ms : List Rw} {fuel : Nat} {listed : Array Bool} {d q : Nat} {s x : Operand} {t ty : TypeId} {pos : String} {aft : Array Edge} {gd : Option (Nat × Bool)} {e e' : TypeId} {size bytes g m m' c : Nat} {v : Value} {xs : List Value} {cs : Array Value} {o : Bool} (j i : Nat) (news : List Value) (hA : Fr n a F) (hS : St w0 L M w) (hsub : Ls.Sublist L) (hsm : ∀ r : Rw, Ms.Sublist (M.set j r)) (he : elemInfo P t = some (e, size, bytes))
    (hs : evO F s = some v) (hx : evO F x = some (.slice (some ⟨g, 0, none⟩) m' c)) (hj : M[j]? = some ⟨v, e, size, m, xs⟩) (hi : L[i]? = some ⟨g, e', cs, o⟩) (hn : cs.toList.take (m' * size) = news) (hl0 : Nat.ble (m' * size) cs.size = true) (h1 : news.all (·.oneCell') = true)
    (h63 : (m + m') * 140737488355328 ≤ 140737488355328 * 140737488355328) (hbytes : (m + m') * bytes ≤ 140737488355328)
    (hq : ops[q]? = some ⟨some d, .call ⟨.builtin .append, #[s, x], #[t, t]⟩, ty, pos, aft, gd⟩) (hw : Region.wanted ⟨some d, .call ⟨.builtin .append, #[s, x], #[t, t]⟩, ty, pos, aft, gd⟩ (yielded ops a.tmps) = true) (hd : Nat.blt d n = true)
    (k : ∀ v' a' w', Fr n a' ((d, v') :: F) → St w0 L (M.set j ⟨v', e, size, m + m', xs ++ news⟩) w' → wpAnyH P .any ops Q (St w0 Ls Ms) fuel (listed.setIfInBounds q true) a' w') : RS P ops Q (St w0 Ls Ms) fuel listed a w q := by
  refine rs_of hq hw ?_
  obtain ⟨ti, z, q1, q2, q3, q4, q5, q6, q7⟩ := elemInfo_spec he
  have hl := Nat.le_of_ble_eq_true hl0
  have hlen : news.length = m' * size := by rw [← hn, List.length_take]; simp; omega
  obtain ⟨v', w', hr, hS'⟩ := run_append_st q1 q2 q3 q4 q5 q6 q7 hS j hj (c := c) hlen (by rw [← hn]; exact cells_of_blk (hS.get i hi)) (fun u hu => (List.all_eq_true.1 h1) u hu) (by unfold maxLen; omega) hbytes ty
  unfold Oper.wp execOp
  simp only [resolve, invoke, builtin, Sem.run_bind, Sem.run_pure, Result.andThen_ok, List.map_toArray, List.map_cons, List.map_nil, hA.ev hs, hA.ev hx, hr]
  exact ⟨hS'.sub hsub (hsm _), k v' _ w' (hA.put (blt_lt hd) v') hS'⟩
end

/-- A cell of the part of a block that is known. -/
theorem cur_get {cur : Array Value} {m : Nat} {xs : List Value} (h : cur.toList.take m = xs) {k : Nat} {v : Value} (hv : xs[k]? = some v) : cur[k]? = some v := by
  rw [← h, List.getElem?_take] at hv
  split at hv
  · simpa using hv
  · cases hv
end Go.Cpl
namespace Go.Proofs.Ytnbimpkihpaldaa
open Go.Cpl Go.RowKit
/-- The cells of a slice of ints. -/
def rowI (l : List Int) : List Value := l.map (Value.int .i64)
theorem rowI_get {l : List Int} {k : Nat} (h : k < l.length) : (rowI l)[k]? = some (.int .i64 (nthI l k)) := by simp [rowI, nthI_eq h, h]
theorem rowI_snoc (l : List Int) (x : Int) : rowI l ++ [.int .i64 x] = rowI (l ++ [x]) := by simp [rowI]
/-- The cells of a slice of pairs. -/
def rowP (l : List (Int × Int)) : List Value := l.flatMap fun p => [.int .i64 p.1, .int .i64 p.2]
theorem rowP_snoc (l : List (Int × Int)) (x y : Int) : rowP l ++ [.int .i64 x, .int .i64 y] = rowP (l ++ [(x, y)]) := by simp [rowP]
theorem rowP_length (l : List (Int × Int)) : (rowP l).length = 2 * l.length := by
  induction l with
  | nil => rfl
  | cons p l ih => simp only [rowP, List.flatMap_cons] at ih ⊢; simp [ih]; omega
theorem rowP_get : ∀ {l : List (Int × Int)} {k : Nat}, k < l.length → (rowP l)[2 * k]? = some (.int .i64 (nthP l k).1) ∧ (rowP l)[2 * k + 1]? = some (.int .i64 (nthP l k).2)
  | [], k, h => by simp at h
  | p :: l, 0, _ => by simp [rowP, nthP]
  | p :: l, k + 1, h => by
    have := rowP_get (l := l) (k := k) (by simpa using h)
    have e : rowP (p :: l) = .int .i64 p.1 :: .int .i64 p.2 :: rowP l := rfl
    rw [e, show 2 * (k + 1) = 2 * k + 1 + 1 by omega, List.getElem?_cons_succ, List.getElem?_cons_succ, List.getElem?_cons_succ, List.getElem?_cons_succ]
    exact this
theorem take_snocI {l : List Int} {k : Nat} (h : k < l.length) : l.take (k + 1) = l.take k ++ [nthI l k] := by
  rw [List.take_add_one, List.getElem?_eq_getElem h, nthI_eq h]; rfl
/-- A slice of the call's own, as one that is read. -/
theorem rowI_reads {w : World} {base : Nat} {e : TypeId} {v : Value} {m : Nat} {l : List Int} (h : w.ownsRow base e 1 v m (rowI l)) : l.length = m ∧ ∃ A cap, v = .slice A m cap ∧ ∀ k, k < l.length → ∃ ad, A = some ad ∧ w.cell? (ad.add k) = some (.int .i64 (nthI l k)) := by
  have hl : l.length = m := by have := h.1; simpa [rowI] using this
  refine ⟨hl, ?_⟩
  rcases h.2 with ⟨rfl, rfl⟩ | ⟨g, cap, cur, rfl, _, hgg, _, _, _, ht⟩
  · exact ⟨none, 0, rfl, fun k hk => by omega⟩
  · refine ⟨_, cap, rfl, fun k hk => ⟨_, rfl, ?_⟩⟩
    rw [add_zero_off, Blk.cell (t := e) (cs := cur) hgg]
    rw [Nat.mul_one] at ht
    exact cur_get ht (rowI_get hk)
theorem cur_set {cur : Array Value} {m : Nat} {l : List Int} (h : cur.toList.take m = rowI l) (k : Nat) (x : Int) : (cur.setIfInBounds k (.int .i64 x)).toList.take m = rowI (l.set k x) := by
  rw [Array.toList_setIfInBounds, List.take_set, h]
  simp [rowI]
theorem cur_reads {w : World} {g m : Nat} {t : TypeId} {cur : Array Value} {l : List Int} (hb : Blk w g t cur) (h : cur.toList.take m = rowI l) : ∀ k, k < l.length → ∃ ad, (some ⟨g, 0, none⟩ : Option Addr) = some ad ∧ w.cell? (ad.add k) = some (.int .i64 (nthI l k)) := by
  intro k hk
  exact ⟨_, rfl, by rw [add_zero_off, hb.cell]; exact cur_get h (rowI_get hk)⟩
/-- A slice of ints that came in, nil let in. -/
def IReads (w : World) (A : Option Addr) (l : List Int) : Prop := ∀ k, k < l.length → ∃ ad, A = some ad ∧ w.cell? (ad.add k) = some (.int .i64 (nthI l k))
theorem IReads.kept {w w' : World} {A : Option Addr} {l : List Int} (h : IReads w A l) (hk : Kp w w') : IReads w' A l := by
  intro k hk'
  obtain ⟨ad, rfl, hc⟩ := h k hk'
  exact ⟨ad, rfl, by rw [hk.cell (p := ad.add k) (World.block_lt_of_cell? w _ hc)]; exact hc⟩
end Go.Proofs.Ytnbimpkihpaldaa
