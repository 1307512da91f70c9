import Derived.Test.YtcijkniijomcjaaArr
import Derived.Test.YtcijkniijomcjaaChecks
import Derived.Test.YtcijkniijomcjaaFlat3
import Derived.Deep.OwnRows
/-! Slices of floats: that came in, or of the call's own. -/
namespace Go.Proofs.Ytcijkniijomcjaa
open Go.RowKit Go.Cpl
def rowF (xs : List Nat) : List Value := xs.map (.float .f32)
theorem rowF_get {xs : List Nat} {k : Nat} (h : k < xs.length) : (rowF xs)[k]? = some (.float .f32 (nth xs k)) := by simp [rowF, nth_eq h, h]
theorem rowF_app (l k : List Nat) : rowF l ++ rowF k = rowF (l ++ k) := by simp [rowF]
theorem trc_toList (xs : List Nat) : (trc xs).toList = rowF xs := by simp [trc, rowF]
theorem rowF_reads {w : World} {base : Nat} {e : TypeId} {v : Value} {m : Nat} {l : List Nat} (h : w.ownsRow base e 1 v m (rowF l)) : l.length = m ∧ ∃ A cap, v = .slice A m cap ∧ m ≤ cap ∧ FReads w A l := by
  have hl : l.length = m := by have := h.1; simpa [rowF] using this
  refine ⟨hl, ?_⟩
  rcases h.2 with ⟨rfl, rfl⟩ | ⟨g, cap, cur, rfl, _, hgg, hmc, _, _, ht⟩
  · exact ⟨none, 0, rfl, Nat.le_refl _, fun k hk => by omega⟩
  · refine ⟨_, cap, rfl, hmc, fun k hk => ⟨_, rfl, ?_⟩⟩
    rw [add_zero_off, Blk.cell (t := e) (cs := cur) hgg]
    exact cur_get ht (rowF_get hk)
theorem row_fr {w : World} {base : Nat} {e : TypeId} {A : Option Addr} {m m' cap : Nat} {l : List Nat} (h : w.ownsRow base e 1 (.slice A m cap) m' (rowF l)) : FReads w A l := by
  obtain ⟨_, A', cap', hv, _, hr⟩ := rowF_reads h
  cases hv
  exact hr
theorem FReads.kept {w w' : World} {A : Option Addr} {l : List Nat} (h : FReads w A l) (hk : Kp w w') : FReads w' A l := by
  intro k hk'
  obtain ⟨ad, rfl, hc⟩ := h k hk'
  exact ⟨ad, rfl, by rw [hk.cell (p := ad.add k) (World.block_lt_of_cell? w _ hc)]; exact hc⟩
/-- A part of a list of words. -/
def cutF (xs : List Nat) (at_ n : Nat) : List Nat := (List.range n).map fun i => nth xs (at_ + i)
theorem cutF_length (xs : List Nat) (at_ n : Nat) : (cutF xs at_ n).length = n := by simp [cutF]
theorem cutF_nth {xs : List Nat} {at_ n k : Nat} (h : k < n) : nth (cutF xs at_ n) k = nth xs (at_ + k) := by
  rw [nth_eq (by rw [cutF_length]; exact h)]; simp [cutF]
theorem FReads.cut {w : World} {ad : Addr} {l : List Nat} (h : FReads w (some ad) l) {i n : Nat} (hi : i + n ≤ l.length) : ∀ j v, ((trc (cutF l i n)).toList)[j]? = some v → w.cell? ((ad.add i).add j) = some v := by
  intro j v hv
  rw [trc_toList, rowF, List.getElem?_map] at hv
  have hjn : j < n := by
    rcases Nat.lt_or_ge j n with q | q
    · exact q
    · rw [List.getElem?_eq_none (by rw [cutF_length]; exact q)] at hv; cases hv
  obtain ⟨ad', e, hc⟩ := h (i + j) (by omega)
  obtain rfl := Option.some.inj e
  have e2 := cutF_nth (xs := l) (at_ := i) hjn
  rw [nth_eq (by rw [cutF_length]; exact hjn)] at e2
  rw [List.getElem?_eq_getElem (by rw [cutF_length]; exact hjn), e2] at hv
  simp only [Option.map_some, Option.some.injEq] at hv
  subst hv
  rw [Addr.add_add]; exact hc
section
variable {P : Program} {ops : Array Oper} {Q : Exit → Act → World → Prop} {n : Sz} {a : Act} {w0 : Base} {w : World} {F : Fm} {L Ls : List Bk} {M Ms : List Rw} {rest : List Oper} {fuel : Nat} {listed : Array Bool}
/-- A float of a slice that came in. -/
theorem g_loadXF {ty : TypeId} {x : Operand} {ad : Addr} {l : List Nat} {k : Nat} (hx : evO F x = some (.pointer (some (ad.add k)))) (hr : FReads w0.w (some ad) l) (hk : k < l.length) (hs : scalar P ty = true) : Gives P F w0 L M (.load ty x) (.float .f32 (nth l k)) := by
  obtain ⟨ad', e, hc⟩ := hr k hk
  obtain rfl := Option.some.inj e
  exact g_loadX hx hc hs
/-- A float of one of the call's own. -/
theorem g_loadRF {ty : TypeId} {x : Operand} {ad : Addr} {l : List Nat} {k : Nat} (j : Nat) {e : TypeId} {m m' cap : Nat} (hx : evO F x = some (.pointer (some (ad.add k)))) (hj : M[j]? = some ⟨.slice (some ad) m cap, e, 1, m', rowF l⟩) (hk : k < l.length) (hs : scalar P ty = true) : Gives P F w0 L M (.load ty x) (.float .f32 (nth l k)) := fun _ _ w hA hS _ _ _ _ _ => by
  obtain ⟨ad', e, h1⟩ := row_fr (hS.row j hj) k hk
  obtain rfl := Option.some.inj e
  have hi : (isAgg ty).run P w = .ok false w := by
    unfold scalar at hs
    unfold isAgg
    cases hu : P.underlying ty with
    | none => rw [hu] at hs; cases hs
    | some d => rw [hu] at hs; rw [Sem.run_bind, run_underlying hu]; cases d <;> first | rfl | cases hs
  have hl : (loadVar ty (ad.add k)).run P w = .ok (.float .f32 (nth l k)) w := by
    unfold loadVar
    rw [Sem.run_bind, hi]
    simp only [Result.andThen_ok]
    rw [if_neg (by decide), run_load, h1]
  simp only [execOp, hA.ev hx, Instr.loadAt, Instr.sureAddr, Sem.run_bind, Sem.run_pure, Result.andThen_ok, hl]
/-- An array of floats, read at a place of a slice. -/
theorem g_loadXA {ty : TypeId} {x : Operand} {ad : Addr} {l : List Nat} {i : Nat} (s : Nat) (hx : evO F x = some (.pointer (some (ad.add i)))) (hr : FReads w0.w (some ad) l) (hi : i + s ≤ l.length) (ht : rowType P ty s = true) : Gives P F w0 L M (.load ty x) (.agg (trc (cutF l i s))) := fun _ _ w hA hS _ _ _ _ _ => by
  obtain ⟨d, hu, hd, hz⟩ := rowType_spec ht
  have h1 := (hr.kept hS.kp).cut hi
  simp only [execOp, hA.ev hx, Instr.loadAt, Instr.sureAddr, Sem.run_bind, Sem.run_pure, Result.andThen_ok, run_loadVar_list h1 hu hd (by rw [hz, trc_toList]; simp [rowF, cutF_length])]
theorem g_loadRA {ty : TypeId} {x : Operand} {ad : Addr} {l : List Nat} {i : Nat} (j s : Nat) {e : TypeId} {m m' cap : Nat} (hx : evO F x = some (.pointer (some (ad.add i)))) (hj : M[j]? = some ⟨.slice (some ad) m cap, e, 1, m', rowF l⟩) (hi : i + s ≤ l.length) (ht : rowType P ty s = true) : Gives P F w0 L M (.load ty x) (.agg (trc (cutF l i s))) := fun _ _ w hA hS _ _ _ _ _ => by
  obtain ⟨d, hu, hd, hz⟩ := rowType_spec ht
  have h1 := (row_fr (hS.row j hj)).cut hi
  simp only [execOp, hA.ev hx, Instr.loadAt, Instr.sureAddr, Sem.run_bind, Sem.run_pure, Result.andThen_ok, run_loadVar_list h1 hu hd (by rw [hz, trc_toList]; simp [rowF, cutF_length])]
/-- A part of a slice, and its array. -/
theorem sl_x {t e : TypeId} {b : Nat} {ad : Addr} {m c i h : Nat} (he : elemInfo P t = some (e, 1, b)) (h1 : i ≤ h) (h2 : h ≤ c) (h3 : i < c) {x y : Int} (hx : x = (i : Int)) (hy : y = (h : Int)) (w : World) : (Instr.sliceAt t (.slice (some ad) m c) (some (.int .i64 x)) (some (.int .i64 y)) none).run P w = .ok (.slice (some (ad.add i)) (h - i) (c - i)) w := by
  obtain ⟨ti, z, q1, q2, q3, q4, q5, q6, q7⟩ := elemInfo_spec he
  subst hx; subst hy
  have ee : P.elem t = e := by simp [Program.elem, q1]
  rw [run_sliceAt_slice w t _ _ _ _ (by rw [ee]; exact q1), run_slice_lh w t _ _ _ (by rw [ee]; exact q1) _ _ _ _ (by omega) (by omega) (by omega)]
  have hz : (sizeOf (P.elem t)).run P w = .ok 1 w := by rw [ee]; simp [sizeOf, typeInfo, q2, q4]
  rw [hz]
  simp only [Result.andThen, sliced, Int.toNat_natCast]
  rw [if_neg (by omega), Nat.mul_one]; rfl
theorem arr_x {arr e : TypeId} {k : Nat} {A : Option Addr} {m c : Nat} (hu : P.underlying arr = some (.array k e)) (hk : k ≤ m) (w : World) : (Instr.arrayAt arr (.slice A m c)).run P w = .ok (.pointer A) w := run_arrayAt w arr e k A m c hu hk
/-- A slice of floats that came in, behind one of the call's own. -/
theorem run_appendXF {t e : TypeId} {ti : TypeInfo} {z : Value} {bytes : Nat} (ht : P.underlying t = some (.slice e)) (hi : P.info? e = some ti) (hz : ti.zero = some z) (hsize : ti.size = 1) (hby : ti.bytes = bytes) (hzs : z.cells.size = 1)
    (hS : St w0 L M w) (j : Nat) {v : Value} {m : Nat} {xs : List Value} (hj : M[j]? = some ⟨v, e, 1, m, xs⟩) {A : Option Addr} {m' c : Nat} {l : List Nat} (hr : FReads w A l) (hl : l.length = m')
    (h63 : m + m' ≤ maxLen) (hbytes : (m + m') * bytes ≤ 140737488355328) (ty : TypeId) :
    ∃ v' w', (Builtin.append_ #[t, t] ty #[v, .slice A m' c]).run P w = .ok v' w' ∧ St w0 L (M.set j ⟨v', e, 1, m + m', xs ++ rowF l⟩) w' := by
  cases A with
  | some ad =>
    refine run_append_st ht hi hz hsize hby hzs (by omega) hS j hj (by simpa [rowF] using hl) ?_ ?_ h63 hbytes ty
    · intro k u hu
      unfold rowF at hu
      rw [List.getElem?_map] at hu
      cases hk : l[k]? with
      | none => rw [hk] at hu; cases hu
      | some x =>
        rw [hk] at hu
        simp only [Option.map_some, Option.some.injEq] at hu
        subst hu
        have hkl : k < l.length := by
          rcases Nat.lt_or_ge k l.length with q | q
          · exact q
          · rw [List.getElem?_eq_none q] at hk; cases hk
        obtain ⟨ad', e', hc⟩ := hr k hkl
        obtain rfl := Option.some.inj e'
        rw [hc, nth_eq hkl]
        rw [List.getElem?_eq_getElem hkl] at hk
        rw [Option.some.inj hk]
    · intro u hu
      simp only [rowF, List.mem_map] at hu
      obtain ⟨x, _, rfl⟩ := hu
      rfl
  | none =>
    have h0 : l.length = 0 := by
      rcases Nat.eq_zero_or_pos l.length with q | q
      · exact q
      · obtain ⟨ad, e', _⟩ := hr 0 q; cases e'
    obtain rfl := List.eq_nil_of_length_eq_zero h0
    obtain rfl : m' = 0 := by simpa using hl.symm
    have hown := hS.row j hj
    have hrun : (Builtin.append_ #[t, t] ty #[v, .slice none 0 c]).run P w = .ok v w := by
      rcases hown.2 with ⟨hv, _⟩ | ⟨g, cap, cur, hv, _, _, hnc, _, _, _⟩
      · have hv : v = .slice none 0 0 := hv
        subst hv
        simp [Builtin.append_, run_underlying ht, sizeOf, typeInfo, hi, Builtin.lenOf, Builtin.firstCells]
      · have hv : v = .slice (some ⟨g, 0, none⟩) m cap := hv
        have hnc : m ≤ cap := hnc
        subst hv
        simp [Builtin.append_, run_underlying ht, sizeOf, typeInfo, hi, Builtin.lenOf, Builtin.firstCells, hnc, storeCells]
    refine ⟨v, w, hrun, ?_⟩
    have e2 : M.set j ⟨v, e, 1, m + 0, xs ++ rowF []⟩ = M := by
      have hlt : j < M.length := by
        rcases Nat.lt_or_ge j M.length with q | q
        · exact q
        · rw [List.getElem?_eq_none q] at hj; cases hj
      rw [List.getElem?_eq_getElem hlt] at hj
      have : (⟨v, e, 1, m + 0, xs ++ rowF []⟩ : Rw) = M[j] := by rw [Option.some.inj hj]; simp [rowF]
      rw [this, List.set_getElem_self]
    rw [e2]
    exact hS
theorem s_appendXF {d : Nat} {s x : Operand} {t ty : TypeId} {pos : String} {aft : Array Edge} {e : TypeId} {bytes m m' c : Nat} {v : Value} {xs : List Value} {A : Option Addr} {l : List Nat} (j : Nat) (hA : Fr n a F) (hS : St w0 L M w) (he : elemInfo P t = some (e, 1, bytes))
    (hs : evO F s = some v) (hx : evO F x = some (.slice A m' c)) (hj : M[j]? = some ⟨v, e, 1, m, xs⟩) (hr : FReads w A l) (hl : l.length = m')
    (h63 : (m + m') * 140737488355328 ≤ 140737488355328 * 140737488355328) (hbytes : (m + m') * bytes ≤ 140737488355328) (hd : Nat.blt d n = true)
    (k : ∀ v' a' w', Fr n a' ((d, v') :: F) → St w0 L (M.set j ⟨v', e, 1, m + m', xs ++ rowF l⟩) w' → wpList P ops Q rest a' w') : wpList P ops Q (⟨some d, .call ⟨.builtin .append, #[s, x], #[t, t]⟩, ty, pos, aft, none⟩ :: rest) a w := by
  refine wpList_plain rfl fun K hK => ?_
  obtain ⟨ti, z, q1, q2, q3, q4, q5, q6, q7⟩ := elemInfo_spec he
  obtain ⟨v', w', hr', hS'⟩ := run_appendXF q1 q2 q3 q4 q5 q6 hS j hj (c := c) hr hl (by unfold maxLen; omega) hbytes ty
  unfold Oper.wp execOp
  simp only [resolve, invoke, builtin, Sem.run_bind, Sem.run_pure, Result.andThen_ok, List.map_toArray, List.map_cons, List.map_nil, hA.ev hs, hA.ev hx, hr']
  exact hK _ _ (k v' _ w' (hA.put (blt_lt hd) v') hS')
theorem rs_appendXF {d q : Nat} {s x : Operand} {t ty : TypeId} {pos : String} {aft : Array Edge} {gd : Option (Nat × Bool)} {e : TypeId} {bytes m m' c : Nat} {v : Value} {xs : List Value} {A : Option Addr} {l : List Nat} (j : Nat) (hA : Fr n a F) (hS : St w0 L M w) (hsub : Ls.Sublist L) (hsm : ∀ r : Rw, Ms.Sublist (M.set j r)) (he : elemInfo P t = some (e, 1, bytes))
    (hs : evO F s = some v) (hx : evO F x = some (.slice A m' c)) (hj : M[j]? = some ⟨v, e, 1, m, xs⟩) (hr : FReads w A l) (hl : l.length = m')
    (h63 : (m + m') * 140737488355328 ≤ 140737488355328 * 140737488355328) (hbytes : (m + m') * bytes ≤ 140737488355328)
    (hq : ops[q]? = some ⟨some d, .call ⟨.builtin .append, #[s, x], #[t, t]⟩, ty, pos, aft, gd⟩) (hw : Region.wanted ⟨some d, .call ⟨.builtin .append, #[s, x], #[t, t]⟩, ty, pos, aft, gd⟩ (yielded ops a.tmps) = true) (hd : Nat.blt d n = true)
    (k : ∀ v' a' w', Fr n a' ((d, v') :: F) → St w0 L (M.set j ⟨v', e, 1, m + m', xs ++ rowF l⟩) w' → wpAnyH P .any ops Q (St w0 Ls Ms) fuel (listed.setIfInBounds q true) a' w') : RS P ops Q (St w0 Ls Ms) fuel listed a w q := by
  refine rs_of hq hw ?_
  obtain ⟨ti, z, q1, q2, q3, q4, q5, q6, q7⟩ := elemInfo_spec he
  obtain ⟨v', w', hr', hS'⟩ := run_appendXF q1 q2 q3 q4 q5 q6 hS j hj (c := c) hr hl (by unfold maxLen; omega) hbytes ty
  unfold Oper.wp execOp
  simp only [resolve, invoke, builtin, Sem.run_bind, Sem.run_pure, Result.andThen_ok, List.map_toArray, List.map_cons, List.map_nil, hA.ev hs, hA.ev hx, hr']
  exact ⟨hS'.sub hsub (hsm _), k v' _ w' (hA.put (blt_lt hd) v') hS'⟩
/-- A slice type, and its elements. -/
def sliceOf (P : Program) (t : TypeId) : Option TypeId :=
  match P.underlying t with
  | some (.slice e) => some e
  | _ => none
theorem sliceOf_spec {t e : TypeId} (h : sliceOf P t = some e) : P.underlying t = some (.slice e) := by
  unfold sliceOf at h
  split at h
  · rename_i u hu
    rw [hu, Option.some.inj h]
  · cases h
/-- A new slice of floats that are 0, in a region that draws. -/
theorem rs_make {i d : Nat} {lo co : Operand} {t ty : TypeId} {pos : String} {aft : Array Edge} {gd : Option (Nat × Bool)} {e : TypeId} {bytes : Nat} (N : Nat) {x y : Int} (hA : Fr n a F) (hS : St w0 L M w) (hsub : Ls.Sublist L) (hsm : Ms.Sublist M) (ht : sliceOf P t = some e) (hinfo : (P.info? e).map (fun i => (i.zero, i.size, i.bytes)) = some (some (.float .f32 0), 1, bytes))
    (hx : evO F lo = some (.int .i64 x)) (hy : evO F co = some (.int .i64 y)) (ex : x = (N : Int)) (ey : y = (N : Int)) (hb : bytes * N ≤ 281474976710656) (h63 : N ≤ 9223372036854775807)
    (hi : ops[i]? = some ⟨some d, .makeSlice t lo co, ty, pos, aft, gd⟩) (hw : Region.wanted ⟨some d, .makeSlice t lo co, ty, pos, aft, gd⟩ (yielded ops a.tmps) = true) (hd : Nat.blt d n = true)
    (k : ∀ g a' w', Fr n a' ((d, .slice (some ⟨g, 0, none⟩) N N) :: F) → St w0 (⟨g, e, trc (List.replicate N 0), true⟩ :: L) M w' → wpAnyH P .any ops Q (St w0 Ls Ms) fuel (listed.setIfInBounds i true) a' w') : RS P ops Q (St w0 Ls Ms) fuel listed a w i := by
  refine rs_of hi hw ?_
  subst ex; subst ey
  have hrun := run_make_row' (P := P) t e (.float .f32 0) bytes (sliceOf_spec ht) hinfo rfl .i64 .i64 N hb h63 w
  have ec : madeCells #[Value.float .f32 0] N = trc (List.replicate N 0) := by
    apply Array.ext
    · simp [size_madeCells, trc]
    · intro i h1 h2
      simp [madeCells, trc, Nat.mod_one]
  rw [ec] at hrun
  have hn := hS.new (Nat.le_refl _) (Blk.new w e (trc (List.replicate N 0))) ((Below.refl _ _).alloc (Nat.le_refl _) _)
  have h' := k w.heap.size _ _ (hA.put (blt_lt hd) (.slice (some ⟨w.heap.size, 0, none⟩) N N)) hn
  unfold Oper.wp execOp
  simp only [Sem.run_bind, Sem.run_pure, Result.andThen_ok, hA.ev hx, hA.ev hy, hrun]
  exact ⟨hn.tail.sub hsub hsm, h'⟩
/-- A call whose result holds a new slice of which something is known. -/
theorem s_callRX {T : Type} {d : Nat} {f : FuncId} {fx : Operand} {args : List Operand} {ats : Array TypeId} {ty : TypeId} {pos : String} {aft : Array Edge} {fs cp : Array Value} {r : List (Nat × Value)} (sh : Value → Value) (av : Array Value) {e : TypeId} {size m : Nat} (p : T → Prop) (xs : T → List Value) (hA : Fr n a F) (hS : St w0 L M w)
    (hc : Calls P f av w fun en w' => ∃ u, p u ∧ ∃ v, en = .returned (sh v) ∧ Below w.heap.size w w' ∧ w'.ownsRow w.heap.size e size v m (xs u)) (hcall : ∀ (vs : Array Value) (w : World), (callFunc f vs).run P w = .ok (.enter f vs) w)
    (hf : evO F fx = some (.func (.func f) fs cp)) (hr : evL F (args.map fun x => (0, x)) = some r) (hav : fs ++ (r.map (·.2)).toArray ++ cp = av) (hd : Nat.blt d n = true)
    (k : ∀ u, p u → ∀ v a' w', Fr n a' ((d, sh v) :: F) → St w0 L (⟨v, e, size, m, xs u⟩ :: M) w' → wpList P ops Q rest a' w') : wpList P ops Q (⟨some d, .call ⟨.value fx, args.toArray, ats⟩, ty, pos, aft, none⟩ :: rest) a w := by
  refine wpList_plain rfl fun K hK => ?_
  unfold Oper.wp
  rw [run_call hA hf hr hav hcall]
  refine hc.mono fun en w' ⟨u, hu, v, he, hb, ho⟩ => ?_
  subst he
  exact hK _ _ (k u hu v _ w' (hA.put (blt_lt hd) _) (hS.gotRow hb ho))
end
theorem St.closeRow {w0 : Base} {w : World} {L : List Bk} {M : List Rw} (h : St w0 L M w) (i : Nat) {g n c size : Nat} {e : TypeId} {cs : Array Value} {xs : List Value} (hi : L[i]? = some ⟨g, e, cs, true⟩) (hs : cs.size = c * size) (hn : n ≤ c) (hm : c ≤ maxLen) (hx : cs.toList.take (n * size) = xs) :
    St w0 (L.eraseIdx i) (⟨.slice (some ⟨g, 0, none⟩) n c, e, size, n, xs⟩ :: M) w := by
  have hmem := List.mem_of_getElem? hi
  have hb := h.blk _ hmem
  have hown := h.own _ hmem rfl
  have hlt : i < L.length := by
    rcases Nat.lt_or_ge i L.length with h3 | h3
    · exact h3
    · rw [List.getElem?_eq_none h3] at hi; cases hi
  have hget : L[i] = ⟨g, e, cs, true⟩ := by rw [List.getElem?_eq_getElem hlt] at hi; exact Option.some.inj hi
  have hpw := List.pairwise_iff_getElem.1 h.apart
  have hne : ∀ b ∈ L.eraseIdx i, b.g ≠ g := by
    intro b hb' e'
    obtain ⟨j, hjl, hj, rfl⟩ := List.mem_eraseIdx_iff_getElem.1 hb'
    rcases Nat.lt_or_gt_of_ne hj with q | q
    · exact hpw j i hjl hlt q (by rw [hget]; exact .inr rfl) (by rw [hget]; exact e')
    · exact hpw i j hlt hjl q (by rw [hget]; exact .inl rfl) (by rw [hget]; exact e'.symm)
  have hsub : ∀ b ∈ L.eraseIdx i, b ∈ L := fun b hb' => List.mem_of_mem_eraseIdx hb'
  refine ⟨h.kq, fun b hb' => h.blk b (hsub b hb'), fun b hb' => h.own b (hsub b hb'), h.apart.sublist (List.eraseIdx_sublist ..), fun r hr => ?_, fun r hr b hb' => ?_, List.pairwise_cons.2 ⟨fun r hr => ?_, h.rr⟩⟩
  · rcases List.mem_cons.1 hr with rfl | hr
    · have hl := congrArg List.length hx
      rw [List.length_take, Array.length_toList, hs, Nat.min_eq_left (Nat.mul_le_mul_right size hn)] at hl
      exact ⟨hl.symm, .inr ⟨g, c, cs, rfl, hown, hb, hn, hm, hs, hx⟩⟩
    · exact h.rows r hr
  · rcases List.mem_cons.1 hr with rfl | hr
    · intro e'; exact hne b hb' (Option.some.inj e').symm
    · exact h.rb r hr b (hsub b hb')
  · exact .inr fun e' => h.rb r hr _ hmem e'.symm
end Go.Proofs.Ytcijkniijomcjaa
