import Derived.Test.YtcijkniijomcjaaFlo
import Derived.Test.YtcijkniijomcjaaRound
import Derived.Test.YtcijkniijomcjaaMat4
/-! Matrices as lists of ints: parts of lists, arrays as elements, calls that make blocks. -/
namespace Go.Proofs.Ytcijkniijomcjaa
open Go.RowKit Go.Cpl
/-- A part of a list of ints. -/
def cutN (l : List Int) (i n : Nat) : List Int := (List.range n).map fun j => nthI l (i + j)
theorem cutN_length (l : List Int) (i n : Nat) : (cutN l i n).length = n := by simp [cutN]
theorem cutN_nth {l : List Int} {i n k : Nat} (h : k < n) : nthI (cutN l i n) k = nthI l (i + k) := by
  rw [nthI_eq (by rw [cutN_length]; exact h)]; simp [cutN]
theorem cutN_flat (l : List Int) (k s : Nat) : Value.agg (ints (cutN l k s)) = .agg (flat l k s).toArray := by simp [ints, cutN, flat]
theorem cutN_take {l : List Int} {i n : Nat} (h : i + n ≤ l.length) : cutN l i n = (l.drop i).take n := by
  apply List.ext_getElem
  · simp [cutN]; omega
  · intro j h1 h2
    have hj : j < n := by simpa [cutN] using h1
    simp [cutN]
    rw [nthI_eq (by omega)]
theorem take_cutN {l : List Int} {i n : Nat} (h : i + n ≤ l.length) : l.take i ++ cutN l i n = l.take (i + n) := by
  rw [cutN_take h, List.take_add]
section
variable {P : Program} {ops : Array Oper} {Q : Exit → Act → World → Prop} {n : Sz} {a : Act} {w0 : Base} {w : World} {F : Fm} {L Ls : List Bk} {M Ms : List Rw} {rest : List Oper} {fuel : Nat} {listed : Array Bool}
theorem g_loadXN {ty : TypeId} {x : Operand} {ad : Addr} {l : List Int} {k : Nat} (s : Nat) (hx : evO F x = some (.pointer (some (ad.add k)))) (hr : IReads w0.w (some ad) l) (hk : k + s ≤ l.length) (ht : rowType P ty s = true) : Gives P F w0 L M (.load ty x) (.agg (ints (cutN l k s))) := g_loadXS s hx hr hk ht (cutN_flat l k s)
theorem g_loadRN {ty : TypeId} {x : Operand} {ad : Addr} {l : List Int} {k : Nat} (j s : Nat) {e : TypeId} {size m m' cap : Nat} (hx : evO F x = some (.pointer (some (ad.add k)))) (hj : M[j]? = some ⟨.slice (some ad) m cap, e, size, m', rowI l⟩) (hk : k + s ≤ l.length) (ht : rowType P ty s = true) : Gives P F w0 L M (.load ty x) (.agg (ints (cutN l k s))) := g_loadRS j s hx hj hk ht (cutN_flat l k s)
/-- The tail of a slice, and a part of it with its own capacity. -/
theorem sl_from1 {t e : TypeId} {b : Nat} {ad : Addr} {m c i : Nat} (he : elemInfo P t = some (e, 1, b)) (h1 : i < m) (h2 : m ≤ c) {x : Int} (hx : x = (i : Int)) (w : World) : (Instr.sliceAt t (.slice (some ad) m c) (some (.int .i64 x)) none none).run P w = .ok (.slice (some (ad.add i)) (m - i) (c - i)) w := by
  obtain ⟨ti, z, q1, q2, q3, q4, q5, q6, q7⟩ := elemInfo_spec he
  subst hx
  have ee : P.elem t = e := by simp [Program.elem, q1]
  rw [run_sliceAt_slice w t _ _ _ _ (by rw [ee]; exact q1), run_slice_l w t _ _ _ (by rw [ee]; exact q1) _ _ (by omega) (by omega)]
  have hz : (sizeOf (P.elem t)).run P w = .ok 1 w := by rw [ee]; simp [sizeOf, typeInfo, q2, q4]
  rw [hz]
  simp only [Result.andThen, sliced, Int.toNat_natCast]
  rw [if_neg (by omega), Nat.mul_one]; rfl
theorem sl_cap {t e : TypeId} {b : Nat} {ad : Addr} {m c i k : Nat} (he : elemInfo P t = some (e, 1, b)) (h1 : 0 < k) (h2 : i + k ≤ c) {x y y' : Int} (hx : x = (i : Int)) (hy : y = ((i + k : Nat) : Int)) (hy' : y' = ((i + k : Nat) : Int)) (w : World) : (Instr.sliceAt t (.slice (some ad) m c) (some (.int .i64 x)) (some (.int .i64 y)) (some (.int .i64 y'))).run P w = .ok (.slice (some (ad.add i)) k k) w := by
  obtain ⟨ti, z, q1, q2, q3, q4, q5, q6, q7⟩ := elemInfo_spec he
  subst hx; subst hy; subst hy'
  have ee : P.elem t = e := by simp [Program.elem, q1]
  rw [run_sliceAt_slice w t _ _ _ _ (by rw [ee]; exact q1), run_slice_lhm w t _ _ _ (by rw [ee]; exact q1) _ _ _ _ _ _ (by omega) (by omega) (by omega) (by omega)]
  have hz : (sizeOf (P.elem t)).run P w = .ok 1 w := by rw [ee]; simp [sizeOf, typeInfo, q2, q4]
  rw [hz]
  simp only [Result.andThen, sliced, Int.toNat_natCast]
  rw [if_neg (by omega), Nat.mul_one, Nat.add_sub_cancel_left]; rfl
/-- One element that is an array. -/
theorem fold_put : ∀ (l : List Value) (k : Nat) (c : Array Value), k + l.length = c.size → (l.zipIdx k).foldl (fun cs p => cs.setIfInBounds (0 + p.2) p.1) c = (c.toList.take k ++ l).toArray := by
  intro l
  induction l with
  | nil => intro k c h; simp only [List.zipIdx_nil, List.foldl_nil, List.append_nil]; rw [List.take_of_length_le (by simp at h ⊢; omega)]
  | cons v l ih =>
    intro k c h
    simp only [List.zipIdx_cons, List.foldl_cons]
    rw [ih (k + 1) _ (by simp at h ⊢; omega)]
    have hk : k < c.toList.length := by simp at h ⊢; omega
    congr 1
    rw [Nat.zero_add, Array.toList_setIfInBounds, List.take_add_one, List.getElem?_set_self hk, List.take_set_of_le (Nat.le_refl k)]
    simp
theorem bsRow_one {t e : TypeId} {size bytes : Nat} {cs : Array Value} (he : elemInfo P t = some (e, size, bytes)) (hs : cs.size = size) (hb : size ≤ 16777216) : bsRow P t 1 [(0, .agg cs)] = some (e, cs) := by
  obtain ⟨ti, z, q1, q2, q3, q4, q5, q6, q7⟩ := elemInfo_spec he
  unfold bsRow
  simp only [q1, q2, q4, Nat.one_mul]
  rw [if_neg (by simp; omega), if_neg (by omega), q3]
  simp only [Option.map_some]
  generalize z.cells = zs
  unfold Instr.fill
  simp only [show (Value.agg cs).cells = cs from rfl, hs, Nat.zero_mul]
  rw [if_neg (by simp)]
  unfold Instr.fill
  simp only [Option.map_some, Option.some.injEq, Prod.mk.injEq, true_and]
  rw [← Array.foldl_toList, Array.toList_zipIdx]
  have := fold_put cs.toList 0 ((Array.range size).map (zs[· % zs.size]!)) (by simp [hs])
  simpa using this
theorem take_rowI {l : List Int} {m : Nat} (h : l.length = m) : (ints l).toList.take m = rowI l := by
  rw [List.take_of_length_le (by simp [ints, h])]; simp [ints, rowI]
theorem take_rowF {l : List Nat} {m : Nat} (h : l.length = m) : (trc l).toList.take m = rowF l := by
  rw [List.take_of_length_le (by simp [trc, h])]; simp [trc, rowF]
theorem ble_ints {l : List Int} {m : Nat} (h : l.length = m) : Nat.ble m (ints l).size = true := by rw [ints_size, h, Nat.ble_eq]; exact Nat.le_refl _
theorem ble_trc {l : List Nat} {m : Nat} (h : l.length = m) : Nat.ble m (trc l).size = true := by rw [trc_size, h, Nat.ble_eq]; exact Nat.le_refl _
theorem rowI_one (l : List Int) : (rowI l).all (·.oneCell') = true := by simp [rowI, Value.oneCell']
theorem rowF_one (l : List Nat) : (rowF l).all (·.oneCell') = true := by simp [rowF, Value.oneCell']
theorem trc_all1 (l : List Nat) : (trc l).all (·.oneCell') = true := trc_one l
end
theorem it_end {P : Program} {fn : Func} {R : Ending → World → Prop} {m0 : Nat} {a : Act} {F : Fm} {w : World} (hA : Fr ⟨m0, []⟩ a F) (hres : fn.results = #[]) (hR : R (.returned (.tuple #[])) w) : bodyPost P fn R .normal a w := ⟨hA.def_, _, results_none hres _ _ _, hR⟩
theorem it_ret {P : Program} {fn : Func} {R : Ending → World → Prop} {m0 : Nat} {a : Act} {F : Fm} {w : World} (hA : Fr ⟨m0, []⟩ a F) (hres : fn.results = #[]) (hR : R (.returned (.tuple #[])) w) : bodyPost P fn R .ret a w := ⟨hA.def_, _, results_none hres _ _ _, hR⟩
/-! ### Calls that make blocks -/
theorem ownsRow_base {w : World} {B B' : Nat} {e : TypeId} {size : Nat} {v : Value} {n : Nat} {xs : List Value} (h : w.ownsRow B e size v n xs) (hB : B' ≤ B) : w.ownsRow B' e size v n xs := by
  refine ⟨h.1, ?_⟩
  rcases h.2 with hn | ⟨g, cap, cur, hv, hb, rest⟩
  · exact .inl hn
  · exact .inr ⟨g, cap, cur, hv, Nat.le_trans hB hb, rest⟩
theorem St.join {b : Base} {w w' : World} {L L' : List Bk} {M M' : List Rw} (h : St b L M w) (k : St w L' M' w') (ho : ∀ x ∈ L', x.own = true) : St b (L' ++ L) (M' ++ M) w' := by
  have hb := k.kp
  have h' := h.kept hb
  have hge : ∀ x ∈ L', w.heap.size ≤ x.g := fun x hx => k.own x hx (ho x hx)
  have hlt : ∀ x ∈ L, x.g < w.heap.size := fun x hx => (h.blk x hx).lt
  refine ⟨h'.kq, fun x hx => ?_, fun x hx hx' => ?_, List.pairwise_append.2 ⟨k.apart, h.apart, fun x hx y hy _ => ?_⟩, fun r hr => ?_, fun r hr x hx => ?_, List.pairwise_append.2 ⟨k.rr, h.rr, fun r hr s hs => ?_⟩⟩
  · rcases List.mem_append.1 hx with hx | hx
    · exact k.blk x hx
    · exact h'.blk x hx
  · rcases List.mem_append.1 hx with hx | hx
    · exact Nat.le_trans h.kq.size (hge x hx)
    · exact h.own x hx hx'
  · have := hge x hx; have := hlt y hy; omega
  · rcases List.mem_append.1 hr with hr | hr
    · exact ownsRow_base (k.rows r hr) h.kq.size
    · exact h'.rows r hr
  · rcases List.mem_append.1 hr with hr | hr
    · rcases List.mem_append.1 hx with hx | hx
      · exact k.rb r hr x hx
      · intro e
        have := ((k.rows r hr).lt _ e).1; have := hlt x hx
        simp only at *; omega
    · rcases List.mem_append.1 hx with hx | hx
      · intro e
        have := ((h.rows r hr).lt _ e).2; have := hge x hx; omega
      · exact h.rb r hr x hx
  · cases hv : r.v.ownBlock with
    | none => exact .inl rfl
    | some g =>
      refine .inr fun e => ?_
      have := ((k.rows r hr).lt g hv).1
      have := ((h.rows s hs).lt g e.symm).2
      simp only at *; omega
section
variable {P : Program} {ops : Array Oper} {Q : Exit → Act → World → Prop} {n : Sz} {a : Act} {w0 : Base} {w : World} {F : Fm} {L Ls : List Bk} {M Ms : List Rw} {rest : List Oper} {fuel : Nat} {listed : Array Bool}
theorem s_callSt {T : Type} {d : Nat} {f : FuncId} {fx : Operand} {args : List Operand} {ats : Array TypeId} {ty : TypeId} {pos : String} {aft : Array Edge} {fs cp : Array Value} {r : List (Nat × Value)} (av : Array Value) (sh : T → Value) (L' : T → List Bk) (M' : T → List Rw) (hA : Fr n a F) (hS : St w0 L M w)
    (hc : Calls P f av w fun en w' => ∃ u, en = .returned (sh u) ∧ St w (L' u) (M' u) w') (ho : ∀ u, ∀ x ∈ L' u, x.own = true) (hcall : ∀ (vs : Array Value) (w : World), (callFunc f vs).run P w = .ok (.enter f vs) w)
    (hf : evO F fx = some (.func (.func f) fs cp)) (hr : evL F (args.map fun x => (0, x)) = some r) (hav : fs ++ (r.map (·.2)).toArray ++ cp = av) (hd : Nat.blt d n = true)
    (k : ∀ u a' w', Fr n a' ((d, sh u) :: F) → St w0 (L' u ++ L) (M' u ++ M) w' → wpList P ops Q rest a' w') : wpList P ops Q (⟨some d, .call ⟨.value fx, args.toArray, ats⟩, ty, pos, aft, none⟩ :: rest) a w := by
  refine wpList_plain rfl fun K hK => ?_
  unfold Oper.wp
  rw [run_call hA hf hr hav hcall]
  refine hc.mono fun en w' ⟨u, he, hs⟩ => ?_
  subst he
  exact hK _ _ (k u _ w' (hA.put (blt_lt hd) _) (St.join hS hs (ho u)))
end
/-! ### Pairs, in their order -/
/-- The pairs of so many elements. -/
def preP (n i j : Nat) : List (Nat × Nat) := ((List.range i).flatMap fun f => (List.range n).map fun r => (f, r)) ++ (List.range j).map fun r => (i, r)
def pairsOf (n : Nat) : List (Nat × Nat) := preP n n 0
theorem preP_zero (n : Nat) : preP n 0 0 = [] := rfl
theorem preP_succ (n i j : Nat) : preP n i j ++ [(i, j)] = preP n i (j + 1) := by simp [preP, List.range_succ]
theorem preP_row (n i : Nat) : preP n i n = preP n (i + 1) 0 := by simp [preP, List.range_succ]
theorem preP_length (n i j : Nat) : (preP n i j).length = i * n + j := by
  have e : (List.map (fun _ => n) (List.range i)).sum = i * n := by rw [List.map_const']; simp
  simp [preP, List.length_flatMap, e]
theorem preP_add (n i j k : Nat) : preP n i (j + k) = preP n i j ++ (List.range k).map fun r => (i, j + r) := by
  induction k with
  | zero => simp
  | succ k ih => rw [← Nat.add_assoc, ← preP_succ, ih, List.range_succ]; simp
theorem preP_rows (n i k : Nat) : preP n (i + k) 0 = preP n i 0 ++ (List.range k).flatMap fun f => (List.range n).map fun r => (i + f, r) := by
  induction k with
  | zero => simp
  | succ k ih =>
    rw [← Nat.add_assoc, ← preP_row]
    have := preP_add n (i + k) 0 n
    rw [Nat.zero_add] at this
    rw [this, ih, List.range_succ]
    simp
theorem pairs_at {n i j : Nat} (hi : i < n) (hj : j < n) : ∃ rest, pairsOf n = preP n i j ++ (i, j) :: rest := by
  obtain ⟨k, rfl⟩ : ∃ k, n = i + 1 + k := ⟨n - (i + 1), by omega⟩
  obtain ⟨m, hm⟩ : ∃ m, i + 1 + k = j + 1 + m := ⟨i + 1 + k - (j + 1), by omega⟩
  refine ⟨((List.range m).map fun r => (i, j + 1 + r)) ++ (List.range k).flatMap fun f => (List.range (i + 1 + k)).map fun r => (i + 1 + f, r), ?_⟩
  unfold pairsOf
  rw [preP_rows (i + 1 + k) (i + 1) k, ← preP_row]
  have := preP_add (i + 1 + k) i (j + 1) m
  rw [← hm] at this
  rw [this, ← preP_succ]
  simp
/-- What the next pair is. -/
theorem pairs_next {n : Nat} {pre : List (Nat × Nat)} {x : Nat × Nat} {rest : List (Nat × Nat)} (h : pairsOf n = pre ++ x :: rest) : x.1 < n ∧ x.2 < n ∧ pre.length = x.1 * n + x.2 := by
  have hlen : (pairsOf n).length = n * n := by rw [pairsOf, preP_length]; simp
  have hl : pre.length < n * n := by rw [← hlen, h]; simp
  have hn : 0 < n := by
    rcases Nat.eq_zero_or_pos n with e | e
    · subst e; omega
    · exact e
  have h1 : pre.length / n < n := Nat.div_lt_of_lt_mul hl
  have h2 : pre.length % n < n := Nat.mod_lt _ hn
  obtain ⟨rest', e⟩ := pairs_at h1 h2
  have e3 : (preP n (pre.length / n) (pre.length % n)).length = pre.length := by rw [preP_length, Nat.mul_comm]; exact Nat.div_add_mod _ _
  have := h.symm.trans e
  obtain ⟨e4, e5⟩ := List.append_inj this e3.symm
  simp only [List.cons.injEq] at e5
  obtain ⟨rfl, _⟩ := e5
  exact ⟨h1, h2, by rw [Nat.mul_comm]; exact (Nat.div_add_mod _ _).symm⟩
theorem range_next {n : Nat} {pre : List Nat} {x : Nat} {rest : List Nat} (h : List.range n = pre ++ x :: rest) : x = pre.length ∧ pre = List.range pre.length ∧ pre.length < n := by
  have hl : pre.length < n := by have := congrArg List.length h; simp at this; omega
  have e : (List.range n)[pre.length]? = some x := by rw [h]; simp
  rw [List.getElem?_range hl] at e
  refine ⟨(Option.some.inj e).symm, ?_, hl⟩
  have := congrArg (List.take pre.length) h
  rw [List.take_range, Nat.min_eq_left (by omega)] at this
  simpa using this.symm
end Go.Proofs.Ytcijkniijomcjaa
