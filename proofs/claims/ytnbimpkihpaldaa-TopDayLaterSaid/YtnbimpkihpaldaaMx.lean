import Derived.Test.YtnbimpkihpaldaaVr
/-! Calls that make blocks; stores into slices of the call's own. -/
namespace Go.Proofs.Ytnbimpkihpaldaa
open Go.RowKit Go.Cpl
theorem it_end {P : Program} {fn : Func} {R : Ending → World → Prop} {m0 : Nat} {a : Act} {F : Fm} {w : World} (hA : Fr ⟨m0, []⟩ a F) (hres : fn.results = #[]) (hR : R (.returned (.tuple #[])) w) : bodyPost P fn R .normal a w := ⟨hA.def_, _, results_none hres _ _ _, hR⟩
theorem it_ret {P : Program} {fn : Func} {R : Ending → World → Prop} {m0 : Nat} {a : Act} {F : Fm} {w : World} (hA : Fr ⟨m0, []⟩ a F) (hres : fn.results = #[]) (hR : R (.returned (.tuple #[])) w) : bodyPost P fn R .ret a w := ⟨hA.def_, _, results_none hres _ _ _, hR⟩
/-! ### Calls that make blocks -/
theorem ownsRow_base {w : World} {B B' : Nat} {e : TypeId} {size : Nat} {v : Value} {n : Nat} {xs : List Value} (h : w.ownsRow B e size v n xs) (hB : B' ≤ B) : w.ownsRow B' e size v n xs := by
  refine ⟨h.1, ?_⟩
  rcases h.2 with hn | ⟨g, cap, cur, hv, hb, rest⟩
  · exact .inl hn
  · exact .inr ⟨g, cap, cur, hv, Nat.le_trans hB hb, rest⟩
theorem St.join {b : Base} {w w' : World} {L L' : List Bk} {M M' : List Rw} (h : St b L M w) (k : St w L' M' w') (ho : ∀ x ∈ L', x.own = true) : St b (L' ++ L) (M' ++ M) w' := by
  have hb := k.kp
  have h' := h.kept hb
  have hge : ∀ x ∈ L', w.heap.size ≤ x.g := fun x hx => k.own x hx (ho x hx)
  have hlt : ∀ x ∈ L, x.g < w.heap.size := fun x hx => (h.blk x hx).lt
  refine ⟨h'.kq, fun x hx => ?_, fun x hx hx' => ?_, List.pairwise_append.2 ⟨k.apart, h.apart, fun x hx y hy _ => ?_⟩, fun r hr => ?_, fun r hr x hx => ?_, List.pairwise_append.2 ⟨k.rr, h.rr, fun r hr s hs => ?_⟩⟩
  · rcases List.mem_append.1 hx with hx | hx
    · exact k.blk x hx
    · exact h'.blk x hx
  · rcases List.mem_append.1 hx with hx | hx
    · exact Nat.le_trans h.kq.size (hge x hx)
    · exact h.own x hx hx'
  · have := hge x hx; have := hlt y hy; omega
  · rcases List.mem_append.1 hr with hr | hr
    · exact ownsRow_base (k.rows r hr) h.kq.size
    · exact h'.rows r hr
  · rcases List.mem_append.1 hr with hr | hr
    · rcases List.mem_append.1 hx with hx | hx
      · exact k.rb r hr x hx
      · intro e
        have := ((k.rows r hr).lt _ e).1; have := hlt x hx
        simp only at *; omega
    · rcases List.mem_append.1 hx with hx | hx
      · intro e
        have := ((h.rows r hr).lt _ e).2; have := hge x hx; omega
      · exact h.rb r hr x hx
  · cases hv : r.v.ownBlock with
    | none => exact .inl rfl
    | some g =>
      refine .inr fun e => ?_
      have := ((k.rows r hr).lt g hv).1
      have := ((h.rows s hs).lt g e.symm).2
      simp only at *; omega
section
variable {P : Program} {ops : Array Oper} {Q : Exit → Act → World → Prop} {n : Sz} {a : Act} {w0 : Base} {w : World} {F : Fm} {L Ls : List Bk} {M Ms : List Rw} {rest : List Oper} {fuel : Nat} {listed : Array Bool}
theorem s_callSt {T : Type} {d : Nat} {f : FuncId} {fx : Operand} {args : List Operand} {ats : Array TypeId} {ty : TypeId} {pos : String} {aft : Array Edge} {fs cp : Array Value} {r : List (Nat × Value)} (av : Array Value) (sh : T → Value) (L' : T → List Bk) (M' : T → List Rw) (hA : Fr n a F) (hS : St w0 L M w)
    (hc : Calls P f av w fun en w' => ∃ u, en = .returned (sh u) ∧ St w (L' u) (M' u) w') (ho : ∀ u, ∀ x ∈ L' u, x.own = true) (hcall : ∀ (vs : Array Value) (w : World), (callFunc f vs).run P w = .ok (.enter f vs) w)
    (hf : evO F fx = some (.func (.func f) fs cp)) (hr : evL F (args.map fun x => (0, x)) = some r) (hav : fs ++ (r.map (·.2)).toArray ++ cp = av) (hd : Nat.blt d n = true)
    (k : ∀ u a' w', Fr n a' ((d, sh u) :: F) → St w0 (L' u ++ L) (M' u ++ M) w' → wpList P ops Q rest a' w') : wpList P ops Q (⟨some d, .call ⟨.value fx, args.toArray, ats⟩, ty, pos, aft, none⟩ :: rest) a w := by
  refine wpList_plain rfl fun K hK => ?_
  unfold Oper.wp
  rw [run_call hA hf hr hav hcall]
  refine hc.mono fun en w' ⟨u, he, hs⟩ => ?_
  subst he
  exact hK _ _ (k u _ w' (hA.put (blt_lt hd) _) (St.join hS hs (ho u)))
end
theorem wr_list : ∀ (l : List Value) (k : Nat) (c : Array Value), k + l.length ≤ c.size → (wr c k l).toList = c.toList.take k ++ l ++ c.toList.drop (k + l.length) := by
  intro l
  induction l with
  | nil => intro k c h; simp [wr]
  | cons v l ih =>
    intro k c h
    simp only [wr]
    rw [ih (k + 1) _ (by simp at h ⊢; omega)]
    have hk : k < c.toList.length := by simp at h ⊢; omega
    rw [Array.toList_setIfInBounds, List.take_add_one, List.getElem?_set_self hk, List.take_set_of_le (Nat.le_refl k), List.drop_set_of_lt (by omega), List.length_cons, show k + 1 + l.length = k + (l.length + 1) by omega]
    simp
theorem wr_size (l : List Value) (k : Nat) (c : Array Value) : (wr c k l).size = c.size := by
  induction l generalizing k c with
  | nil => rfl
  | cons v l ih => simp only [wr]; rw [ih, Array.size_setIfInBounds]
/-- A list with a part put in. -/
def putL {α : Type} (l : List α) (o : Nat) (ys : List α) : List α := l.take o ++ ys ++ l.drop (o + ys.length)
theorem putL_length {α : Type} {l ys : List α} {o : Nat} (h : o + ys.length ≤ l.length) : (putL l o ys).length = l.length := by simp [putL]; omega
theorem putL_map {α β : Type} (f : α → β) (l ys : List α) (o : Nat) : (putL l o ys).map f = putL (l.map f) o (ys.map f) := by simp [putL, List.map_take, List.map_drop]
theorem putL_one {α : Type} {l : List α} {o : Nat} (h : o < l.length) (y : α) : putL l o [y] = l.set o y := by
  rw [List.set_eq_take_append_cons_drop, if_pos h]; simp [putL]
section
variable {P : Program} {ops : Array Oper} {Q : Exit → Act → World → Prop} {n : Sz} {a : Act} {w0 : Base} {w : World} {F : Fm} {L Ls : List Bk} {M Ms : List Rw} {rest : List Oper} {fuel : Nat} {listed : Array Bool}
theorem run_rowStore {ty : TypeId} (j : Nat) {ad : Addr} {m cap : Nat} {e : TypeId} {size : Nat} {xs : List Value} {off k : Nat} {u : Value} {us : List Value} (hS : St w0 L M w) (hj : M[j]? = some ⟨.slice (some ad) m cap, e, size, m, xs⟩)
    (hu : u.cells.toList = us) (hl : us.length = k) (hsz : (P.info? ty).map (·.size) = some k) (h1 : us.all (·.oneCell') = true) (ho : off + k ≤ xs.length) :
    ∃ w', (storeVar ty (ad.add off) u).run P w = .ok () w' ∧ St w0 L (M.set j ⟨.slice (some ad) m cap, e, size, m, putL xs off us⟩) w' := by
  have hown : w.ownsRow w0.w.heap.size e size (.slice (some ad) m cap) m xs := hS.row j hj
  rcases hown.2 with ⟨hv, _⟩ | ⟨g, cap', cur, hv, hb, hgg, hmc, hml, hcs, ht⟩
  · cases hv
  · cases hv
    have hsize : m * size ≤ cur.size := by
      have hl0 : xs.length = m * size := hown.1
      rw [← ht, List.length_take, Array.length_toList] at hl0; omega
    have hx : off + k ≤ m * size := by have : xs.length = m * size := hown.1; omega
    have hput : putVal P ty cur off u = some (wr cur off us) := by
      unfold putVal
      rw [hsz]
      have e1 : u.cells.size = k := by rw [← hl, ← hu, Array.length_toList]
      simp only [e1, hu, h1, Nat.beq_refl, Bool.and_true, Bool.true_and]
      rw [show Nat.ble (off + k) cur.size = true by rw [Nat.ble_eq]; omega]
      rfl
    obtain ⟨w', hr, hb', htn⟩ := run_storeVar_blk (P := P) (show Blk w g e cur from hgg) hput
    refine ⟨w', by rw [add_zero_off]; exact hr, ?_⟩
    refine hS.grown j hj ⟨?_, .inr ⟨g, cap, _, rfl, hb, hb', hmc, hml, by rw [wr_size]; exact hcs, ?_⟩⟩ ⟨htn.os, htn.tape, htn.output, Nat.le_of_eq htn.size.symm, fun i _ hi => htn.block i (fun e => hi (by rw [e]; rfl))⟩ (.inl rfl)
    · rw [putL_length (by omega)]; exact hown.1
    · rw [wr_list _ _ _ (by omega), hl]
      obtain ⟨tl, e3⟩ : ∃ tl, cur.toList = xs ++ tl := ⟨cur.toList.drop (m * size), by
        have h5 := List.take_append_drop (m * size) cur.toList
        rw [ht] at h5; exact h5.symm⟩
      have hxl : xs.length = m * size := hown.1
      have t1 : (xs ++ tl).take off = xs.take off := List.take_append_of_le_length (by omega)
      have t2 : (xs ++ tl).drop (off + k) = xs.drop (off + k) ++ tl := List.drop_append_of_le_length (by omega)
      rw [e3, t1, t2, ← List.append_assoc]
      unfold putL
      rw [hl, List.take_append_of_le_length (by simp; omega), List.take_of_length_le (by simp; omega)]
theorem s_storeR {ty : TypeId} {x y : Operand} {ty' : TypeId} {pos : String} {aft : Array Edge} (j : Nat) {ad : Addr} {m cap : Nat} {e : TypeId} {size : Nat} {xs : List Value} {off : Nat} {u : Value} (k : Nat) (us xs' : List Value) (hA : Fr n a F) (hS : St w0 L M w) (hx : evO F x = some (.pointer (some (ad.add off)))) (hy : evO F y = some u) (hj : M[j]? = some ⟨.slice (some ad) m cap, e, size, m, xs⟩)
    (hu : u.cells.toList = us) (hl : us.length = k) (hsz : (P.info? ty).map (·.size) = some k) (h1 : us.all (·.oneCell') = true) (ho : off + k ≤ xs.length) (hp : putL xs off us = xs')
    (q : ∀ w', St w0 L (M.set j ⟨.slice (some ad) m cap, e, size, m, xs'⟩) w' → wpList P ops Q rest a w') : wpList P ops Q (⟨none, .store ty x y, ty', pos, aft, none⟩ :: rest) a w := by
  refine wpList_plain rfl fun K hK => ?_
  obtain ⟨w', hr, hs⟩ := run_rowStore (P := P) j hS hj hu hl hsz h1 ho
  rw [hp] at hs
  unfold Oper.wp
  simp only [execOp, hA.ev hx, hA.ev hy, Instr.storeAt, Instr.sureAddr, Sem.run_bind, Sem.run_pure, Result.andThen_ok, hr]
  exact hK _ _ (q w' hs)
theorem rs_storeR {i : Nat} {ty : TypeId} {x y : Operand} {ty' : TypeId} {pos : String} {aft : Array Edge} {gd : Option (Nat × Bool)} (j : Nat) {ad : Addr} {m cap : Nat} {e : TypeId} {size : Nat} {xs : List Value} {off : Nat} {u : Value} (k : Nat) (us xs' : List Value) (hA : Fr n a F) (hS : St w0 L M w) (hsub : Ls.Sublist L) (hsm : ∀ r : Rw, Ms.Sublist (M.set j r)) (hx : evO F x = some (.pointer (some (ad.add off)))) (hy : evO F y = some u) (hj : M[j]? = some ⟨.slice (some ad) m cap, e, size, m, xs⟩)
    (hu : u.cells.toList = us) (hl : us.length = k) (hsz : (P.info? ty).map (·.size) = some k) (h1 : us.all (·.oneCell') = true) (ho : off + k ≤ xs.length) (hp : putL xs off us = xs')
    (hi : ops[i]? = some ⟨none, .store ty x y, ty', pos, aft, gd⟩) (hw : Region.wanted ⟨none, .store ty x y, ty', pos, aft, gd⟩ (yielded ops a.tmps) = true)
    (q : ∀ w', St w0 L (M.set j ⟨.slice (some ad) m cap, e, size, m, xs'⟩) w' → wpAnyH P .any ops Q (St w0 Ls Ms) fuel (listed.setIfInBounds i true) a w') : RS P ops Q (St w0 Ls Ms) fuel listed a w i := by
  refine rs_of hi hw ?_
  obtain ⟨w', hr, hs⟩ := run_rowStore (P := P) j hS hj hu hl hsz h1 ho
  rw [hp] at hs
  unfold Oper.wp
  simp only [execOp, hA.ev hx, hA.ev hy, Instr.storeAt, Instr.sureAddr, Sem.run_bind, Sem.run_pure, Result.andThen_ok, hr]
  exact ⟨hs.sub hsub (hsm _), q w' hs⟩
end

end Go.Proofs.Ytnbimpkihpaldaa
