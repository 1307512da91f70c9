import Derived.Test.YtnbimpkihpaldaaSp
import Derived.Laws.OwnMore
/-! Steps of the walk for slices of steps, of what became of them, and of bools. -/
namespace Go.Proofs.Ytnbimpkihpaldaa
open Go.RowKit Go.Cpl
theorem St.perm {w0 : Base} {w : World} {L L' : List Bk} {M : List Rw} (h : St w0 L M w) (p : L.Perm L') : St w0 L' M w :=
  ⟨h.kq, fun b hb => h.blk b (p.mem_iff.2 hb), fun b hb => h.own b (p.mem_iff.2 hb), h.apart.perm p (fun q o e => q o.symm e.symm), h.rows, fun r hr b hb => h.rb r hr b (p.mem_iff.2 hb), h.rr⟩
theorem front_perm {α : Type} {x : α} : ∀ {l : List α} (i : Nat), l[i]? = some x → l.Perm (x :: l.eraseIdx i) := by
  intro l
  induction l with
  | nil => intro i h; cases h
  | cons y l ih =>
    intro i h
    cases i with
    | zero => cases h; exact List.Perm.refl _
    | succ i => exact ((ih i h).cons y).trans (List.Perm.swap x y _)
/-- A block, or a slice, is put ahead. -/
theorem St.frontL {w0 : Base} {w : World} {L : List Bk} {M : List Rw} (h : St w0 L M w) (i : Nat) {b : Bk} (hi : L[i]? = some b) : St w0 (b :: L.eraseIdx i) M w := St.perm h (front_perm i hi)
theorem St.frontM {w0 : Base} {w : World} {L : List Bk} {M : List Rw} (h : St w0 L M w) (i : Nat) {r : Rw} (hi : M[i]? = some r) : St w0 L (r :: M.eraseIdx i) w := St.permM h (front_perm i hi)
theorem row_some {w : World} {base : Nat} {e : TypeId} {v : Value} {size m : Nat} {xs : List Value} (h : w.ownsRow base e size v m xs) (hm : 0 < m) : ∃ g cap, v = .slice (some (Addr.mk g 0 none)) m cap := by
  rcases h.2 with ⟨_, h0⟩ | ⟨g, cap, cur, hv, _⟩
  · omega
  · exact ⟨g, cap, hv⟩
/-- Bools as cells. -/
def bX (n : Nat) (f : Nat → Bool) : List Value := (List.range n).map fun i => .bool (f i)
theorem bX_length (n : Nat) (f : Nat → Bool) : (bX n f).length = n := by simp [bX]
theorem bX_get {n : Nat} {f : Nat → Bool} {k : Nat} (h : k < n) : (bX n f)[k]? = some (.bool (f k)) := by simp [bX, h]
theorem bX_snoc (n : Nat) (f : Nat → Bool) : bX n f ++ [.bool (f n)] = bX (n + 1) f := by simp [bX, List.range_succ]
theorem bX_congr {n : Nat} {f g : Nat → Bool} (h : ∀ i, i < n → f i = g i) : bX n f = bX n g := by
  unfold bX
  refine List.map_congr_left fun i hi => ?_
  rw [h i (List.mem_range.1 hi)]
def setB (f : Nat → Bool) (k : Nat) (v : Bool) : Nat → Bool := fun i => if i = k then v else f i
theorem bX_put {n : Nat} {f : Nat → Bool} {k : Nat} (v : Bool) (h : k < n) : putL (bX n f) k [.bool v] = bX n (setB f k v) := by
  rw [putL_one (by rw [bX_length]; exact h)]
  apply List.ext_getElem?
  intro i
  rw [List.getElem?_set]
  by_cases q : k = i
  · subst q
    rw [if_pos rfl, if_pos (by rw [bX_length]; exact h), bX_get h]
    show _ = some (Value.bool (if k = k then v else f k))
    rw [if_pos rfl]
  · rw [if_neg q]
    rcases Nat.lt_or_ge i n with z | z
    · rw [bX_get z, bX_get z]
      show _ = some (Value.bool (if i = k then v else f i))
      rw [if_neg (Ne.symm q)]
    · rw [List.getElem?_eq_none (by rw [bX_length]; exact z), List.getElem?_eq_none (by rw [bX_length]; exact z)]
theorem made_ls (n : Nat) : (madeCells #[.bool false, .bool false, .int .i64 0, .int .i64 0] (n * 4)).toList = lsX n fun _ => bk0 := by
  apply List.ext_getElem?
  intro i
  rcases Nat.lt_or_ge i (n * 4) with q | q
  · have e : i = i / 4 * 4 + i % 4 := by omega
    rw [e, lsX_get (b := fun _ => bk0) (k := i / 4) (by omega) (i % 4) ((#[.bool false, .bool false, .int .i64 0, .int .i64 0] : Array Value)[i % 4]!) ?_]
    · simp [madeCells, show i / 4 * 4 + i % 4 < n * 4 by omega]
    · rcases (by omega : i % 4 = 0 ∨ i % 4 = 1 ∨ i % 4 = 2 ∨ i % 4 = 3) with h | h | h | h <;> rw [h] <;> rfl
  · rw [List.getElem?_eq_none (by simp [madeCells]; omega), List.getElem?_eq_none (by rw [lsX_length]; exact q)]
theorem made_b (n : Nat) : (madeCells #[.bool false] (n * 1)).toList = bX n fun _ => false := by
  apply List.ext_getElem?
  intro i
  rcases Nat.lt_or_ge i n with q | q
  · rw [bX_get q]; simp [madeCells, q, Nat.mod_one]
  · rw [List.getElem?_eq_none (by simp [madeCells]; omega), List.getElem?_eq_none (by rw [bX_length]; exact q)]
section
variable {P : Program} {ops : Array Oper} {Q : Exit → Act → World → Prop} {n : Sz} {a : Act} {w0 : Base} {w : World} {F : Fm} {L Ls' : List Bk} {M Ms : List Rw} {rest : List Oper}
/-- The first part of a slice. -/
theorem sl_hx {t e : TypeId} {size b : Nat} {A : Option Addr} {m c i : Nat} (he : elemInfo P t = some (e, size, b)) (h : i ≤ c) {x : Int} (hx : x = (i : Int)) (w : World) : (Instr.sliceAt t (.slice A m c) none (some (.int .i64 x)) none).run P w = .ok (.slice A i c) w := by
  obtain ⟨ti, z, q1, q2, q3, q4, q5, q6, q7⟩ := elemInfo_spec he
  subst hx
  have ee : P.elem t = e := by simp [Program.elem, q1]
  rw [run_sliceAt_slice w t _ _ _ _ (by rw [ee]; exact q1), run_slice_h w t _ _ _ (by rw [ee]; exact q1) _ _ (by omega) (by omega)]
  have hz : (sizeOf (P.elem t)).run P w = .ok size w := by rw [ee]; simp [sizeOf, typeInfo, q2, q4]
  rw [hz]
  simp only [Result.andThen, sliced, Int.toNat_natCast, Nat.sub_zero, Nat.zero_mul]
  have e0 : (A.map fun a => a.add 0) = A := by cases A <;> rfl
  show Result.ok (Value.slice (if c = 0 then A else A.map (·.add 0)) i c) w = _
  rw [e0, ite_self]
/-- A new slice with zeros. -/
theorem s_makeRow {d : Nat} {lo co : Operand} {t ty : TypeId} {pos : String} {aft : Array Edge} {e : TypeId} {size bytes : Nat} (N : Nat) {x y : Int} (zc : Array Value) (xs : List Value) (hA : Fr n a F) (hS : St w0 L M w) (he : elemInfo P t = some (e, size, bytes)) (hz : ((P.info? e).bind (·.zero)).map (·.cells) = some zc)
    (hx : evO F lo = some (.int .i64 x)) (hy : evO F co = some (.int .i64 y)) (ex : x = (N : Int)) (ey : y = (N : Int)) (hb : bytes * N ≤ 281474976710656) (h63 : N ≤ 140737488355328) (hxs : (madeCells zc (N * size)).toList = xs) (hd : Nat.blt d n = true)
    (k : ∀ g a' w', Fr n a' ((d, .slice (some ⟨g, 0, none⟩) N N) :: F) → St w0 L (⟨.slice (some ⟨g, 0, none⟩) N N, e, size, N, xs⟩ :: M) w' → wpList P ops Q rest a' w') : wpList P ops Q (⟨some d, .makeSlice t lo co, ty, pos, aft, none⟩ :: rest) a w := by
  refine wpList_plain rfl fun K hK => ?_
  obtain ⟨ti, z, q1, q2, q3, q4, q5, q6, q7⟩ := elemInfo_spec he
  subst ex; subst ey
  have ez : z.cells = zc := by
    rw [q2] at hz
    simpa [q3] using hz
  obtain ⟨w', hr, ho, hg⟩ := run_make_full (P := P) w w0.w.heap.size t e ti z size q1 q2 q3 q4 .i64 .i64 N (by rw [q5]; exact hb) (by unfold maxLen; omega) hS.kq.size
  rw [ez, hxs] at ho
  have hS' := (hS.nilRow e size).grown 0 rfl (v' := .slice (some ⟨w.heap.size, 0, none⟩) N N) (m' := N) (xs' := xs) ho hg (.inr fun g' hg' => by cases hg'; exact Nat.le_refl _)
  unfold Oper.wp execOp
  simp only [Sem.run_bind, Sem.run_pure, Result.andThen_ok, hA.ev hx, hA.ev hy, hr]
  exact hK _ _ (k _ _ _ (hA.put (blt_lt hd) _) hS')
/-- An append of cells that can be read. -/
theorem s_appV {d : Nat} {s x : Operand} {t ty : TypeId} {pos : String} {aft : Array Edge} {e : TypeId} {size bytes m m' c : Nat} {v : Value} {xs : List Value} {A : Option Addr} (j : Nat) (news : List Value) (hA : Fr n a F) (hS : St w0 L M w) (he : elemInfo P t = some (e, size, bytes))
    (hs : evO F s = some v) (hx : evO F x = some (.slice A m' c)) (hj : M[j]? = some ⟨v, e, size, m, xs⟩) (hr : VReads w A news) (hl : news.length = m' * size) (h0 : 0 < news.length) (h1 : news.all (·.oneCell') = true)
    (h63 : m + m' ≤ 140737488355328) (hbytes : (m + m') * bytes ≤ 140737488355328) (hd : Nat.blt d n = true)
    (k : ∀ v' a' w', Fr n a' ((d, v') :: F) → St w0 L (M.set j ⟨v', e, size, m + m', xs ++ news⟩) w' → wpList P ops Q rest a' w') : wpList P ops Q (⟨some d, .call ⟨.builtin .append, #[s, x], #[t, t]⟩, ty, pos, aft, none⟩ :: rest) a w := by
  refine wpList_plain rfl fun K hK => ?_
  obtain ⟨ti, z, q1, q2, q3, q4, q5, q6, q7⟩ := elemInfo_spec he
  obtain ⟨ad, rfl, _⟩ := hr 0 _ (List.getElem?_eq_getElem h0)
  obtain ⟨v', w', hr', hS'⟩ := run_append_st q1 q2 q3 q4 q5 q6 q7 hS j hj (c := c) (ad := ad) hl (fun k u hu => by
    obtain ⟨ad', e', hc⟩ := hr k u hu
    cases e'
    exact hc) (fun u hu => (List.all_eq_true.1 h1) u hu) (by unfold maxLen; omega) hbytes ty
  unfold Oper.wp execOp
  simp only [resolve, invoke, builtin, Sem.run_bind, Sem.run_pure, Result.andThen_ok, List.map_toArray, List.map_cons, List.map_nil, hA.ev hs, hA.ev hx, hr']
  exact hK _ _ (k v' _ w' (hA.put (blt_lt hd) v') hS')
/-- A call that passes the state. -/
theorem s_callThru {d : Nat} {f : FuncId} {fx : Operand} {args : List Operand} {ats : Array TypeId} {ty : TypeId} {pos : String} {aft : Array Edge} {fs cp : Array Value} {r : List (Nat × Value)} (av : Array Value) (L' : List Bk) (M' : Value → List Rw) (hA : Fr n a F)
    (hc : Calls P f av w fun en w' => ∃ v, en = .returned v ∧ St w0 L' (M' v) w') (hcall : ∀ (vs : Array Value) (w : World), (callFunc f vs).run P w = .ok (.enter f vs) w)
    (hf : evO F fx = some (.func (.func f) fs cp)) (hr : evL F (args.map fun x => (0, x)) = some r) (hav : fs ++ (r.map (·.2)).toArray ++ cp = av) (hd : Nat.blt d n = true)
    (k : ∀ v a' w', Fr n a' ((d, v) :: F) → St w0 L' (M' v) w' → wpList P ops Q rest a' w') : wpList P ops Q (⟨some d, .call ⟨.value fx, args.toArray, ats⟩, ty, pos, aft, none⟩ :: rest) a w := by
  refine wpList_plain rfl fun K hK => ?_
  unfold Oper.wp
  rw [run_call hA hf hr hav hcall]
  refine hc.mono fun en w' ⟨v, he, hs⟩ => ?_
  subst he
  exact hK _ _ (k v _ w' (hA.put (blt_lt hd) _) hs)
end
theorem lsX_one (n : Nat) (b : Nat → Ls) : (lsX n b).all (·.oneCell') = true := by
  induction n with
  | zero => rfl
  | succ n ih => rw [lsX_succ, List.all_append, ih]; rfl
/-- What an event makes of the first k steps. -/
def addF (ss : List Sp) (f : Nat → Ls) (mi st wa : Int) (k : Nat) : Nat → Ls := fun i => if i < k then bkA (spK ss i) i mi st wa (f i) else f i
theorem addF_zero (ss : List Sp) (f : Nat → Ls) (mi st wa : Int) : addF ss f mi st wa 0 = f := by funext i; exact if_neg (by omega)
theorem addF_at (ss : List Sp) (f : Nat → Ls) (mi st wa : Int) (k : Nat) : addF ss f mi st wa k k = f k := if_neg (by omega)
theorem addF_set {ss : List Sp} {f : Nat → Ls} {mi st wa : Int} {k : Nat} {x : Ls} (h : bkA (spK ss k) k mi st wa (f k) = x) : setF (addF ss f mi st wa k) k x = addF ss f mi st wa (k + 1) := by
  funext i
  unfold setF addF
  by_cases q : i = k
  · subst q; rw [if_pos rfl, if_pos (by omega), h]
  · rw [if_neg q]
    by_cases z : i < k
    · rw [if_pos z, if_pos (by omega)]
    · rw [if_neg z, if_neg (by omega)]
theorem addF_y {ss : List Sp} {f : Nat → Ls} {mi st wa : Int} {k : Nat} (h : (k : Int) = st) : setF (addF ss f mi st wa k) k ⟨true, true, mi, wa⟩ = addF ss f mi st wa (k + 1) := addF_set (if_pos h)
theorem addF_k {ss : List Sp} {f : Nat → Ls} {mi st wa : Int} {k : Nat} (h : ¬ (k : Int) = st) (h2 : (decide (abI (wa - (f k).wa) > (spK ss k).wa) || (spK ss k).ne.contains st) = true) : setF (addF ss f mi st wa k) k ⟨(f k).dn, false, (f k).mi, (f k).wa⟩ = addF ss f mi st wa (k + 1) := addF_set ((if_neg h).trans (if_pos h2))
theorem addF_n {ss : List Sp} {f : Nat → Ls} {mi st wa : Int} {k : Nat} (h : ¬ (k : Int) = st) (h2 : (decide (abI (wa - (f k).wa) > (spK ss k).wa) || (spK ss k).ne.contains st) = false) : addF ss f mi st wa k = addF ss f mi st wa (k + 1) := by
  have e : bkA (spK ss k) k mi st wa (f k) = f k := (if_neg h).trans (if_neg (by rw [h2]; decide))
  rw [← addF_set e]
  funext i
  unfold setF
  by_cases q : i = k
  · subst q; rw [if_pos rfl, addF_at]
  · rw [if_neg q]
theorem addF_all {ss : List Sp} {f : Nat → Ls} {mi st wa : Int} {n : Nat} : lsX n (addF ss f mi st wa n) = lsX n fun i => bkA (spK ss i) i mi st wa (f i) := lsX_congr fun _ hi => if_pos hi
def bkF (ss : List Sp) (el : List Int) (k : Nat) : Nat → Ls := fun i => bk ss el i k
end Go.Proofs.Ytnbimpkihpaldaa
