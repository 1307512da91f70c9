import Derived.Test.YtcijkniijomcjaaMx8
/-! Stores into the elements of a slice of the call's own. -/
namespace Go.Proofs.Ytcijkniijomcjaa
open Go.RowKit Go.Cpl
theorem wr_list : ∀ (l : List Value) (k : Nat) (c : Array Value), k + l.length ≤ c.size → (wr c k l).toList = c.toList.take k ++ l ++ c.toList.drop (k + l.length) := by
  intro l
  induction l with
  | nil => intro k c h; simp [wr]
  | cons v l ih =>
    intro k c h
    simp only [wr]
    rw [ih (k + 1) _ (by simp at h ⊢; omega)]
    have hk : k < c.toList.length := by simp at h ⊢; omega
    rw [Array.toList_setIfInBounds, List.take_add_one, List.getElem?_set_self hk, List.take_set_of_le (Nat.le_refl k), List.drop_set_of_lt (by omega), List.length_cons, show k + 1 + l.length = k + (l.length + 1) by omega]
    simp
theorem wr_size (l : List Value) (k : Nat) (c : Array Value) : (wr c k l).size = c.size := by
  induction l generalizing k c with
  | nil => rfl
  | cons v l ih => simp only [wr]; rw [ih, Array.size_setIfInBounds]
/-- A list with a part put in. -/
def putL {α : Type} (l : List α) (o : Nat) (ys : List α) : List α := l.take o ++ ys ++ l.drop (o + ys.length)
theorem putL_length {α : Type} {l ys : List α} {o : Nat} (h : o + ys.length ≤ l.length) : (putL l o ys).length = l.length := by simp [putL]; omega
theorem putL_map {α β : Type} (f : α → β) (l ys : List α) (o : Nat) : (putL l o ys).map f = putL (l.map f) o (ys.map f) := by simp [putL, List.map_take, List.map_drop]
theorem putL_one {α : Type} {l : List α} {o : Nat} (h : o < l.length) (y : α) : putL l o [y] = l.set o y := by
  rw [List.set_eq_take_append_cons_drop, if_pos h]; simp [putL]
section
variable {P : Program} {ops : Array Oper} {Q : Exit → Act → World → Prop} {n : Sz} {a : Act} {w0 : Base} {w : World} {F : Fm} {L Ls : List Bk} {M Ms : List Rw} {rest : List Oper} {fuel : Nat} {listed : Array Bool}
theorem run_rowStore {ty : TypeId} (j : Nat) {ad : Addr} {m cap : Nat} {e : TypeId} {size : Nat} {xs : List Value} {off k : Nat} {u : Value} {us : List Value} (hS : St w0 L M w) (hj : M[j]? = some ⟨.slice (some ad) m cap, e, size, m, xs⟩)
    (hu : u.cells.toList = us) (hl : us.length = k) (hsz : (P.info? ty).map (·.size) = some k) (h1 : us.all (·.oneCell') = true) (ho : off + k ≤ xs.length) :
    ∃ w', (storeVar ty (ad.add off) u).run P w = .ok () w' ∧ St w0 L (M.set j ⟨.slice (some ad) m cap, e, size, m, putL xs off us⟩) w' := by
  have hown : w.ownsRow w0.w.heap.size e size (.slice (some ad) m cap) m xs := hS.row j hj
  rcases hown.2 with ⟨hv, _⟩ | ⟨g, cap', cur, hv, hb, hgg, hmc, hml, hcs, ht⟩
  · cases hv
  · cases hv
    have hsize : m * size ≤ cur.size := by
      have hl0 : xs.length = m * size := hown.1
      rw [← ht, List.length_take, Array.length_toList] at hl0; omega
    have hx : off + k ≤ m * size := by have : xs.length = m * size := hown.1; omega
    have hput : putVal P ty cur off u = some (wr cur off us) := by
      unfold putVal
      rw [hsz]
      have e1 : u.cells.size = k := by rw [← hl, ← hu, Array.length_toList]
      simp only [e1, hu, h1, Nat.beq_refl, Bool.and_true, Bool.true_and]
      rw [show Nat.ble (off + k) cur.size = true by rw [Nat.ble_eq]; omega]
      rfl
    obtain ⟨w', hr, hb', htn⟩ := run_storeVar_blk (P := P) (show Blk w g e cur from hgg) hput
    refine ⟨w', by rw [add_zero_off]; exact hr, ?_⟩
    refine hS.grown j hj ⟨?_, .inr ⟨g, cap, _, rfl, hb, hb', hmc, hml, by rw [wr_size]; exact hcs, ?_⟩⟩ ⟨htn.os, htn.tape, htn.output, Nat.le_of_eq htn.size.symm, fun i _ hi => htn.block i (fun e => hi (by rw [e]; rfl))⟩ (.inl rfl)
    · rw [putL_length (by omega)]; exact hown.1
    · rw [wr_list _ _ _ (by omega), hl]
      obtain ⟨tl, e3⟩ : ∃ tl, cur.toList = xs ++ tl := ⟨cur.toList.drop (m * size), by
        have h5 := List.take_append_drop (m * size) cur.toList
        rw [ht] at h5; exact h5.symm⟩
      have hxl : xs.length = m * size := hown.1
      have t1 : (xs ++ tl).take off = xs.take off := List.take_append_of_le_length (by omega)
      have t2 : (xs ++ tl).drop (off + k) = xs.drop (off + k) ++ tl := List.drop_append_of_le_length (by omega)
      rw [e3, t1, t2, ← List.append_assoc]
      unfold putL
      rw [hl, List.take_append_of_le_length (by simp; omega), List.take_of_length_le (by simp; omega)]
theorem s_storeR {ty : TypeId} {x y : Operand} {ty' : TypeId} {pos : String} {aft : Array Edge} (j : Nat) {ad : Addr} {m cap : Nat} {e : TypeId} {size : Nat} {xs : List Value} {off : Nat} {u : Value} (k : Nat) (us xs' : List Value) (hA : Fr n a F) (hS : St w0 L M w) (hx : evO F x = some (.pointer (some (ad.add off)))) (hy : evO F y = some u) (hj : M[j]? = some ⟨.slice (some ad) m cap, e, size, m, xs⟩)
    (hu : u.cells.toList = us) (hl : us.length = k) (hsz : (P.info? ty).map (·.size) = some k) (h1 : us.all (·.oneCell') = true) (ho : off + k ≤ xs.length) (hp : putL xs off us = xs')
    (q : ∀ w', St w0 L (M.set j ⟨.slice (some ad) m cap, e, size, m, xs'⟩) w' → wpList P ops Q rest a w') : wpList P ops Q (⟨none, .store ty x y, ty', pos, aft, none⟩ :: rest) a w := by
  refine wpList_plain rfl fun K hK => ?_
  obtain ⟨w', hr, hs⟩ := run_rowStore (P := P) j hS hj hu hl hsz h1 ho
  rw [hp] at hs
  unfold Oper.wp
  simp only [execOp, hA.ev hx, hA.ev hy, Instr.storeAt, Instr.sureAddr, Sem.run_bind, Sem.run_pure, Result.andThen_ok, hr]
  exact hK _ _ (q w' hs)
theorem rs_storeR {i : Nat} {ty : TypeId} {x y : Operand} {ty' : TypeId} {pos : String} {aft : Array Edge} {gd : Option (Nat × Bool)} (j : Nat) {ad : Addr} {m cap : Nat} {e : TypeId} {size : Nat} {xs : List Value} {off : Nat} {u : Value} (k : Nat) (us xs' : List Value) (hA : Fr n a F) (hS : St w0 L M w) (hsub : Ls.Sublist L) (hsm : ∀ r : Rw, Ms.Sublist (M.set j r)) (hx : evO F x = some (.pointer (some (ad.add off)))) (hy : evO F y = some u) (hj : M[j]? = some ⟨.slice (some ad) m cap, e, size, m, xs⟩)
    (hu : u.cells.toList = us) (hl : us.length = k) (hsz : (P.info? ty).map (·.size) = some k) (h1 : us.all (·.oneCell') = true) (ho : off + k ≤ xs.length) (hp : putL xs off us = xs')
    (hi : ops[i]? = some ⟨none, .store ty x y, ty', pos, aft, gd⟩) (hw : Region.wanted ⟨none, .store ty x y, ty', pos, aft, gd⟩ (yielded ops a.tmps) = true)
    (q : ∀ w', St w0 L (M.set j ⟨.slice (some ad) m cap, e, size, m, xs'⟩) w' → wpAnyH P .any ops Q (St w0 Ls Ms) fuel (listed.setIfInBounds i true) a w') : RS P ops Q (St w0 Ls Ms) fuel listed a w i := by
  refine rs_of hi hw ?_
  obtain ⟨w', hr, hs⟩ := run_rowStore (P := P) j hS hj hu hl hsz h1 ho
  rw [hp] at hs
  unfold Oper.wp
  simp only [execOp, hA.ev hx, hA.ev hy, Instr.storeAt, Instr.sureAddr, Sem.run_bind, Sem.run_pure, Result.andThen_ok, hr]
  exact ⟨hs.sub hsub (hsm _), q w' hs⟩
end
theorem putI (l ys : List Int) (o : Nat) : putL (rowI l) o (rowI ys) = rowI (putL l o ys) := (putL_map (Value.int .i64) l ys o).symm
theorem putF1 {l : List Nat} {o x : Nat} (h : o < l.length) : putL (rowF l) o [.float .f32 x] = rowF (l.set o x) := by
  rw [← putL_one h, rowF, show ([Value.float .f32 x] : List Value) = [x].map (.float .f32) from rfl]; exact (putL_map _ l [x] o).symm
theorem putI1 {l : List Int} {o : Nat} {x : Int} (h : o < l.length) : putL (rowI l) o [.int .i64 x] = rowI (l.set o x) := by
  rw [← putL_one h, rowI, show ([Value.int .i64 x] : List Value) = [x].map (.int .i64) from rfl]; exact (putL_map _ l [x] o).symm
theorem fw_put (l ys : List Int) (o : Nat) : fw (putL l o ys) = putL (fw l) o (fw ys) := putL_map _ l ys o
/-- A part put in step by step. -/
def putK {α : Type} (l ys : List α) (o k : Nat) : List α := putL l o (ys.take k)
theorem putK_zero {α : Type} (l ys : List α) (o : Nat) : putK l ys o 0 = l := by simp [putK, putL]
theorem putK_all {α : Type} {l ys : List α} {o k : Nat} (h : ys.length ≤ k) : putK l ys o k = putL l o ys := by rw [putK, List.take_of_length_le h]
theorem putK_length {α : Type} {l ys : List α} {o k : Nat} (h : o + ys.length ≤ l.length) : (putK l ys o k).length = l.length := by
  refine putL_length ?_
  rw [List.length_take]; omega
theorem putK_set {α : Type} {l ys : List α} {o k : Nat} {y : α} (hk : ys[k]? = some y) (h : o + ys.length ≤ l.length) : (putK l ys o k).set (o + k) y = putK l ys o (k + 1) := by
  have hkl : k < ys.length := by
    rcases Nat.lt_or_ge k ys.length with q | q
    · exact q
    · rw [List.getElem?_eq_none q] at hk; cases hk
  have e1 : (ys.take k).length = k := by rw [List.length_take]; omega
  have e2 : (ys.take (k + 1)).length = k + 1 := by rw [List.length_take]; omega
  unfold putK putL
  rw [e1, e2, List.take_add_one, hk]
  have hd : l.drop (o + k) = l[o + k]'(by omega) :: l.drop (o + (k + 1)) := by rw [List.drop_eq_getElem_cons (by omega)]; rfl
  rw [hd]
  rw [List.set_append_right _ _ (by simp; omega)]
  simp
  rw [show o + k - (min o l.length + min k ys.length) = 0 by omega]
  simp
end Go.Proofs.Ytcijkniijomcjaa
