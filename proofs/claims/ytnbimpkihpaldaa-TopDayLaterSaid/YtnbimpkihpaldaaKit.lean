/- A small calculus of single steps: the frame is known by the slots that are named (Fr), the memory by a list of blocks that are known whole (St). Each law takes one operation, and leaves frame and world as letters. -/
import Derived.Test.YtnbimpkihpaldaaMem
import Derived.RangeFuncOwn
import Derived.IntWalk
import Derived.Laws.AppendOwn
import Derived.Lib.Hide
namespace Go.Cpl
open Go.RowKit

/-! ### The frame -/
theorem beq_ff {a b : Nat} (h : ¬ a = b) : Nat.beq a b = false := by
  cases e : Nat.beq a b with
  | false => rfl
  | true => exact absurd (Nat.eq_of_beq_eq_true e) h
theorem blt_lt {d n : Nat} (h : Nat.blt d n = true) : d < n := by rw [Nat.blt_eq] at h; exact h
abbrev Fm := List (Nat × Value)
def look : Fm → Nat → Option Value
  | [], _ => none
  | (k, v) :: l, n => bif Nat.beq k n then some v else look l n
def evO (F : Fm) : Operand → Option Value
  | .tmp t => look F t
  | .const v => some v
  | .global g => some (.pointer (some ⟨g, 0, none⟩))
  | .func f => some (.func (.func f) #[] #[])

/-- How many slots, and what is deferred. -/
structure Sz where
  n : Nat
  ds : List Deferred
instance {k : Nat} : OfNat Sz k := ⟨⟨k, []⟩⟩
instance : Coe Sz Nat := ⟨Sz.n⟩
/-- The frame has n slots, this is deferred, and the named slots hold these values. -/
structure Fr (n : Sz) (a : Act) (F : Fm) : Prop where
  size : a.tmps.size = n.n
  def_ : a.defers = n.ds
  val : ∀ k v, look F k = some v → a.tmps[k]? = some v

theorem Fr.ev {n : Sz} {a : Act} {F : Fm} (h : Fr n a F) {x : Operand} {v : Value} (hx : evO F x = some v) : a.eval x = v := by
  cases x with
  | tmp t => have := h.val t v hx; simp [Act.eval, this]
  | const c => simpa [evO, Act.eval] using hx
  | global g => simpa [evO, Act.eval] using hx
  | func f => simpa [evO, Act.eval] using hx

theorem Fr.put {n : Sz} {a : Act} {F : Fm} (h : Fr n a F) {d : Nat} (hd : d < n) (v : Value) : Fr n (a.put (some d) v) ((d, v) :: F) := by
  refine ⟨by simp [Act.put, h.size], by simp [Act.put, h.def_], fun k u hk => ?_⟩
  simp only [look] at hk
  by_cases e : d = k
  · subst e
    simp only [Nat.beq_refl, cond_true, Option.some.injEq] at hk
    subst hk
    simp [Act.put, h.size, hd]
  · have e' : Nat.beq d k = false := beq_ff e
    rw [e', cond_false] at hk
    have := h.val k u hk
    simp [Act.put, e, this]
theorem Fr.putN {n : Sz} {a : Act} {F : Fm} (h : Fr n a F) (v : Value) : Fr n (a.put none v) F := h

/-- The first m named slots are forgotten (none of them is named behind). -/
def fresh : Nat → Fm → Bool
  | 0, _ => true
  | _ + 1, [] => true
  | m + 1, (k, _) :: l => (look (l.drop m) k).isNone && fresh m l
theorem Fr.drop {n : Sz} {a : Act} : ∀ {m : Nat} {F : Fm}, Fr n a F → fresh m F = true → Fr n a (F.drop m)
  | 0, _, h, _ => h
  | _ + 1, [], h, _ => h
  | m + 1, (k, u) :: l, h, hf => by
    simp only [fresh, Bool.and_eq_true] at hf
    obtain ⟨h1, h2⟩ := hf
    have key : ∀ (m : Nat) (l : Fm), fresh m l = true → ∀ j v, look (l.drop m) j = some v → look l j = some v := by
      intro m
      induction m with
      | zero => intro l _ j v hj; exact hj
      | succ m ih =>
        intro l hl j v hj
        cases l with
        | nil => exact hj
        | cons p l =>
          obtain ⟨k, u⟩ := p
          simp only [fresh, Bool.and_eq_true] at hl
          have h3 := ih l hl.2 j v hj
          simp only [look]
          by_cases e : k = j
          · subst e
            simp only [List.drop_succ_cons] at hj
            rw [Option.isNone_iff_eq_none] at hl
            rw [hl.1] at hj; cases hj
          · have e' : Nat.beq k j = false := beq_ff e
            rw [e', cond_false]; exact h3
    refine ⟨h.size, h.def_, fun j v hj => h.val j v ?_⟩
    exact key (m + 1) ((k, u) :: l) (by simp only [fresh, Bool.and_eq_true]; exact ⟨h1, h2⟩) j v hj
theorem Fr.cons {n : Sz} {a : Act} {F : Fm} (h : Fr n a F) {d : Nat} {v : Value} (hv : a.tmps[d]? = some v) : Fr n a ((d, v) :: F) := by
  refine ⟨h.size, h.def_, fun k u hk => ?_⟩
  simp only [look] at hk
  by_cases e : d = k
  · subst e
    simp only [Nat.beq_refl, cond_true, Option.some.injEq] at hk
    subst hk; exact hv
  · have e' : Nat.beq d k = false := beq_ff e
    rw [e', cond_false] at hk
    exact h.val k u hk
theorem Fr.nil {n : Sz} {a : Act} {F : Fm} (h : Fr n a F) : Fr n a [] := ⟨h.size, h.def_, fun k v hk => by cases hk⟩
/-- A named slot, in another spelling. -/
theorem Fr.slot {n : Sz} {a : Act} {F G : Fm} (h : Fr n a F) (hG : Fr n a G) {d : Nat} {v u : Value} (hv : look F d = some v) (e : v = u) : Fr n a ((d, u) :: G) := hG.cons (e ▸ h.val d v hv)

def start (args : Array Value) : Fm := (args.toList.zipIdx).map fun p => (p.2, p.1)
theorem look_start : ∀ (l : List Value) (i k : Nat) (v : Value), look ((l.zipIdx i).map fun p => (p.2, p.1)) k = some v → i ≤ k ∧ l[k - i]? = some v
  | [], _, _, _, h => by simp [look] at h
  | x :: l, i, k, v, h => by
    simp only [List.zipIdx_cons, List.map_cons, look] at h
    by_cases e : i = k
    · subst e
      simp only [Nat.beq_refl, cond_true, Option.some.injEq] at h
      subst h
      simp
    · have e' : Nat.beq i k = false := beq_ff e
      rw [e', cond_false] at h
      obtain ⟨h1, h2⟩ := look_start l (i + 1) k v h
      refine ⟨by omega, ?_⟩
      rw [show k - i = (k - (i + 1)) + 1 by omega, List.getElem?_cons_succ]
      exact h2

theorem enter {P : Program} {f : FuncId} {fn : Func} {c : Code} {args : Array Value} {w : World} {R : Ending → World → Prop} {n : Nat}
    (hf : P.funcs[f]? = some fn) (hb : fn.body = some c) (hn : fn.ntmps = n) (hs : Nat.ble args.size n = true)
    (h : ∀ a, Fr ⟨n, []⟩ a (start args) → c.wp P (bodyPost P fn R) a w) : Calls P f args w R := by
  refine calls_of_wp hf hb (h _ ⟨?_, rfl, fun k v hk => ?_⟩)
  · have := Nat.le_of_ble_eq_true hs; simp; omega
  · obtain ⟨_, h2⟩ := look_start args.toList 0 k v hk
    rw [Nat.sub_zero, Array.getElem?_toList] at h2
    have hk' : k < args.size := by
      rcases Nat.lt_or_ge k args.size with h3 | h3
      · exact h3
      · rw [Array.getElem?_eq_none h3] at h2; cases h2
    rw [Array.getElem?_append_left hk']
    exact h2

/-! ### The memory -/
structure Bk where
  g : Nat
  t : TypeId
  cs : Array Value
  own : Bool

/-- A slice that the call has made by append: its value, the type and the cells of an element, its length, its cells. -/
structure Rw where
  v : Value
  e : TypeId
  size : Nat
  n : Nat
  xs : List Value

/-- The world at first, and one since when what is no cells lies as it lay. -/
structure Base where
  w : World
  v : World
instance : Coe World Base := ⟨fun w => ⟨w, w⟩⟩
/-- Cells without marks. -/
def plainO : Obj → Bool
  | .cells _ _ fz => fz == (0, 0)
  | _ => false
/-- Whatever is no plain cells lies as it lay. -/
structure KeepsX (W W' : World) : Prop where
  size : W.heap.size ≤ W'.heap.size
  same : ∀ (k : Nat) (o : Obj), W.heap[k]? = some o → plainO o = false → W'.heap[k]? = some o
theorem KeepsX.refl (W : World) : KeepsX W W := ⟨Nat.le_refl _, fun _ _ h _ => h⟩
theorem KeepsX.trans {A B C : World} (h : KeepsX A B) (k : KeepsX B C) : KeepsX A C := ⟨Nat.le_trans h.size k.size, fun i o hi ho => k.same i o (h.same i o hi ho) ho⟩
theorem KeepsX.of_grownBy {W W' : World} {row : Option Nat} (hg : W.grownBy W' row) (hrow : ∀ (j : Nat) (o : Obj), row = some j → W.heap[j]? = some o → plainO o = true) : KeepsX W W' :=
  ⟨hg.size, fun k o hk ho => (hg.block k (Array.getElem?_eq_some_iff.1 hk).1 (fun e => by rw [hrow k o e.symm hk] at ho; cases ho)).trans hk⟩
theorem keeps_of_below {g : Nat} {w w' : World} (k : Below g w w') (h : w.heap.size ≤ g) : KeepsX w w' :=
  ⟨k.size, fun i o hi _ => (k.block i (by have := (Array.getElem?_eq_some_iff.1 hi).1; omega)).trans hi⟩
def KpB (b : Base) (w : World) : Prop := Below b.w.heap.size b.w w ∧ KeepsX b.v w
theorem KpB.size {b : Base} {w : World} (h : KpB b w) : b.w.heap.size ≤ w.heap.size := h.1.size
theorem KpB.refl (w : World) : KpB w w := ⟨Below.refl _ _, KeepsX.refl _⟩
theorem KpB.new {b : Base} {w w' : World} {g : Nat} (h : KpB b w) (l : w.heap.size ≤ g) (k : Below g w w') : KpB b w' := ⟨h.1.trans (k.mono (Nat.le_trans h.1.size l)), h.2.trans (keeps_of_below k l)⟩
theorem KpB.call {b : Base} {w w' : World} (h : KpB b w) (k : Below w.heap.size w w') : KpB b w' := ⟨h.1.trans (k.mono h.1.size), h.2.trans (keeps_of_below k (Nat.le_refl _))⟩
theorem KpB.turn {b : Base} {w w' : World} {g : Nat} {t : TypeId} {cs : Array Value} (h : KpB b w) (o : b.w.heap.size ≤ g) (k : Turn g w w') (hb : Blk w g t cs) : KpB b w' :=
  ⟨h.1.trans (k.below o), h.2.trans ⟨Nat.le_of_eq k.size.symm, fun i o' hi ho => by
    by_cases e : i = g
    · subst e; rw [hb] at hi; cases hi; exact absurd ho (by simp [plainO])
    · exact (k.block i e).trans hi⟩⟩
theorem KpB.own {b : Base} {w : World} {g : Nat} (h : KpB b w) (l : w.heap.size ≤ g) : b.w.heap.size ≤ g := Nat.le_trans h.1.size l
theorem KpB.drew {b : Base} {w : World} (h : KpB b w) : KpB b w.drew := ⟨Below.drew h.1, h.2.trans ⟨Nat.le_refl _, fun _ _ hi _ => hi⟩⟩
/-- Of what was there at first nothing has turned; these blocks are known whole; those of the call's own are apart from all others; these slices are the call's own, too. -/
structure St (w0 : Base) (L : List Bk) (M : List Rw) (w : World) : Prop where
  kq : KpB w0 w
  blk : ∀ b ∈ L, Blk w b.g b.t b.cs
  own : ∀ b ∈ L, b.own = true → w0.w.heap.size ≤ b.g
  apart : L.Pairwise fun x y => (x.own = true ∨ y.own = true) → x.g ≠ y.g
  rows : ∀ r ∈ M, w.ownsRow w0.w.heap.size r.e r.size r.v r.n r.xs
  rb : ∀ r ∈ M, ∀ b ∈ L, r.v.ownBlock ≠ some b.g
  rr : M.Pairwise fun x y => x.v.ownBlock = none ∨ x.v.ownBlock ≠ y.v.ownBlock

theorem St.kp {w0 : Base} {w : World} {L : List Bk} {M : List Rw} (h : St w0 L M w) : Kp w0.w w := h.kq.1
theorem St.others {w0 : Base} {w : World} {L : List Bk} {M : List Rw} (h : St w0 L M w) : KeepsX w0.v w := h.kq.2
/-- Another world since when. -/
theorem St.since {w0 : Base} {w : World} {L : List Bk} {M : List Rw} (h : St w0 L M w) {v : World} (k : KeepsX v w) : St ⟨w0.w, v⟩ L M w := ⟨⟨h.kq.1, k⟩, h.blk, h.own, h.apart, h.rows, h.rb, h.rr⟩
theorem St.start (w : World) : St w [] [] w := ⟨KpB.refl w, (fun _ h => by cases h), (fun _ h => by cases h), List.Pairwise.nil, (fun _ h => by cases h), (fun _ h => by cases h), List.Pairwise.nil⟩
/-- A block that came in. -/
theorem St.came {w : World} {L : List Bk} (h : St w L [] w) {g : Nat} {t : TypeId} {cs : Array Value} (hb : Blk w g t cs) (hL : ∀ b ∈ L, b.own = false) : St w (⟨g, t, cs, false⟩ :: L) [] w := by
  refine ⟨h.kq, fun b hm => ?_, fun b hm hb' => ?_, List.pairwise_cons.2 ⟨fun b hm ho => ?_, h.apart⟩, h.rows, fun r hr => (by cases hr), h.rr⟩
  · rcases List.mem_cons.1 hm with rfl | hm
    · exact hb
    · exact h.blk b hm
  · rcases List.mem_cons.1 hm with rfl | hm
    · cases hb'
    · exact h.own b hm hb'
  · rcases ho with ho | ho
    · cases ho
    · rw [hL b hm] at ho; cases ho
theorem St.get {w0 : Base} {w : World} {L : List Bk} {M : List Rw} (h : St w0 L M w) (i : Nat) {b : Bk} (hi : L[i]? = some b) : Blk w b.g b.t b.cs := h.blk b (List.mem_of_getElem? hi)
theorem St.row {w0 : Base} {w : World} {L : List Bk} {M : List Rw} (h : St w0 L M w) (i : Nat) {r : Rw} (hi : M[i]? = some r) : w.ownsRow w0.w.heap.size r.e r.size r.v r.n r.xs := h.rows r (List.mem_of_getElem? hi)
theorem ownsRow_below {w w' : World} {base : Nat} {e : TypeId} {size : Nat} {v : Value} {n : Nat} {xs : List Value} {B : Nat} (h : w.ownsRow base e size v n xs) (k : Below B w w') (hB : ∀ g, v.ownBlock = some g → g < B) : w'.ownsRow base e size v n xs := by
  refine ⟨h.1, ?_⟩
  rcases h.2 with hn | ⟨g, cap, cur, rfl, hb, hgg, rest⟩
  · exact .inl hn
  · refine .inr ⟨g, cap, cur, rfl, hb, ?_, rest⟩
    rw [k.block g (hB g rfl)]
    exact hgg
theorem St.kept {w0 : Base} {w w' : World} {L : List Bk} {M : List Rw} (h : St w0 L M w) (k : Below w.heap.size w w') : St w0 L M w' :=
  ⟨h.kq.call k, fun b hb => (h.blk b hb).kept k, h.own, h.apart, fun r hr => ownsRow_below (h.rows r hr) k fun g hg => ((h.rows r hr).lt g hg).2, h.rb, h.rr⟩
theorem St.drew {w0 : Base} {w : World} {L : List Bk} {M : List Rw} (h : St w0 L M w) : St w0 L M w.drew := h.kept (Below.drew (Below.refl _ _))
theorem St.new {w0 : Base} {w w' : World} {L : List Bk} {M : List Rw} (h : St w0 L M w) {g : Nat} {t : TypeId} {cs : Array Value} (l : w.heap.size ≤ g) (hb : Blk w' g t cs) (k : Below g w w') : St w0 (⟨g, t, cs, true⟩ :: L) M w' := by
  refine ⟨h.kq.new l k, fun b hm => ?_, fun b hm ho => ?_, List.pairwise_cons.2 ⟨fun b hm _ => ?_, h.apart⟩, fun r hr => ?_, fun r hr b hm => ?_, h.rr⟩
  · rcases List.mem_cons.1 hm with rfl | hm
    · exact hb
    · exact (h.blk b hm).past l k
  · rcases List.mem_cons.1 hm with rfl | hm
    · exact h.kq.own l
    · exact h.own b hm ho
  · exact Nat.ne_of_gt (Nat.lt_of_lt_of_le (h.blk b hm).lt l)
  · exact ownsRow_below (h.rows r hr) k fun g' hg' => Nat.lt_of_lt_of_le ((h.rows r hr).lt g' hg').2 l
  · rcases List.mem_cons.1 hm with rfl | hm
    · intro e
      have := ((h.rows r hr).lt g e).2
      omega
    · exact h.rb r hr b hm
theorem St.set {w0 : Base} {w w' : World} {L : List Bk} {M : List Rw} (h : St w0 L M w) (i : Nat) {g : Nat} {t : TypeId} {cs cs' : Array Value} (hi : L[i]? = some ⟨g, t, cs, true⟩) (hb : Blk w' g t cs') (k : Turn g w w') : St w0 (L.set i ⟨g, t, cs', true⟩) M w' := by
  have hm0 : (⟨g, t, cs, true⟩ : Bk) ∈ L := List.mem_of_getElem? hi
  have hil : i < L.length := by
    rcases Nat.lt_or_ge i L.length with h3 | h3
    · exact h3
    · rw [List.getElem?_eq_none h3] at hi; cases hi
  have hpw := List.pairwise_iff_getElem.1 h.apart
  have hgi : L[i] = ⟨g, t, cs, true⟩ := by rw [List.getElem?_eq_getElem hil] at hi; exact Option.some.inj hi
  have hne : ∀ j (hj : j < L.length), j ≠ i → L[j].g ≠ g := by
    intro j hj hji e
    rcases Nat.lt_or_gt_of_ne hji with hlt | hgt
    · have := hpw j i hj hil hlt (.inr (by rw [hgi])); rw [hgi] at this; exact this e
    · have := hpw i j hil hj hgt (.inl (by rw [hgi])); rw [hgi] at this; exact this e.symm
  refine ⟨h.kq.turn (h.own _ hm0 rfl) k (h.blk _ hm0), fun b hm => ?_, fun b hm ho => ?_, List.pairwise_iff_getElem.2 fun x y hx hy hxy => ?_, fun r hr => ?_, fun r hr b hm => ?_, h.rr⟩
  · obtain ⟨j, hj, rfl⟩ := List.getElem_of_mem hm
    rw [List.length_set] at hj
    by_cases e : i = j
    · subst e; simp only [List.getElem_set_self]; exact hb
    · rw [List.getElem_set_ne e]
      exact k.blk (h.blk _ (List.getElem_mem hj)) (hne j hj (Ne.symm e))
  · obtain ⟨j, hj, rfl⟩ := List.getElem_of_mem hm
    rw [List.length_set] at hj
    by_cases e : i = j
    · subst e; simp only [List.getElem_set_self]; exact h.own _ hm0 rfl
    · rw [List.getElem_set_ne e] at ho ⊢
      exact h.own _ (List.getElem_mem hj) ho
  · rw [List.length_set] at hx hy
    by_cases e1 : i = x
    · subst e1
      rw [List.getElem_set_self, List.getElem_set_ne (by omega)]
      intro _
      exact Ne.symm (hne y hy (by omega))
    · by_cases e2 : i = y
      · subst e2
        rw [List.getElem_set_self, List.getElem_set_ne e1]
        intro _
        exact hne x hx (by omega)
      · rw [List.getElem_set_ne e1, List.getElem_set_ne e2]
        exact hpw x y hx hy hxy
  · have hg : r.v.ownBlock ≠ some g := h.rb r hr _ hm0
    have hro := h.rows r hr
    refine ⟨hro.1, ?_⟩
    rcases hro.2 with hn | ⟨g', cap, cur, hv, hb', hgg, rest⟩
    · exact .inl hn
    · refine .inr ⟨g', cap, cur, hv, hb', ?_, rest⟩
      rw [k.block g' (fun e => hg (by rw [hv, ← e]; rfl))]
      exact hgg
  · obtain ⟨j, hj, rfl⟩ := List.getElem_of_mem hm
    rw [List.length_set] at hj
    by_cases e : i = j
    · subst e; simp only [List.getElem_set_self]; exact h.rb r hr _ hm0
    · rw [List.getElem_set_ne e]; exact h.rb r hr _ (List.getElem_mem hj)
theorem St.tail {w0 : Base} {w : World} {b : Bk} {L : List Bk} {M : List Rw} (h : St w0 (b :: L) M w) : St w0 L M w :=
  ⟨h.kq, fun x hx => h.blk x (List.mem_cons_of_mem _ hx), fun x hx => h.own x (List.mem_cons_of_mem _ hx), (List.pairwise_cons.1 h.apart).2, h.rows, fun r hr x hx => h.rb r hr x (List.mem_cons_of_mem _ hx), h.rr⟩
/-- Less is known. -/
theorem St.sub {w0 : Base} {w : World} {L L' : List Bk} {M M' : List Rw} (h : St w0 L M w) (hs : L'.Sublist L) (hm : M'.Sublist M) : St w0 L' M' w :=
  ⟨h.kq, fun b hb => h.blk b (hs.subset hb), fun b hb => h.own b (hs.subset hb), h.apart.sublist hs, fun r hr => h.rows r (hm.subset hr), fun r hr b hb => h.rb r (hm.subset hr) b (hs.subset hb), h.rr.sublist hm⟩
/-- The same cells, in another spelling. -/
theorem St.recell {w0 : Base} {w : World} {L : List Bk} {M : List Rw} (i : Nat) (h : St w0 L M w) {g : Nat} {t : TypeId} {cs cs' : Array Value} {o : Bool} (hi : L[i]? = some ⟨g, t, cs, o⟩) (e : cs = cs') : St w0 (L.set i ⟨g, t, cs', o⟩) M w := by
  subst e
  rcases Nat.lt_or_ge i L.length with h3 | h3
  · rw [List.getElem?_eq_getElem h3] at hi
    rw [← Option.some.inj hi, List.set_getElem_self]
    exact h
  · rw [List.getElem?_eq_none h3] at hi; cases hi
theorem St.rerow {w0 : Base} {w : World} {L : List Bk} {M : List Rw} (i : Nat) (h : St w0 L M w) {v : Value} {e : TypeId} {size m m' : Nat} {xs xs' : List Value} (hi : M[i]? = some ⟨v, e, size, m, xs⟩) (q : m = m' ∧ xs = xs') : St w0 L (M.set i ⟨v, e, size, m', xs'⟩) w := by
  obtain ⟨rfl, rfl⟩ := q
  rcases Nat.lt_or_ge i M.length with h3 | h3
  · rw [List.getElem?_eq_getElem h3] at hi
    rw [← Option.some.inj hi, List.set_getElem_self]
    exact h
  · rw [List.getElem?_eq_none h3] at hi; cases hi
/-- A new slice, nil. -/
theorem St.nilRow {w0 : Base} {w : World} {L : List Bk} {M : List Rw} (h : St w0 L M w) (e : TypeId) (size : Nat) : St w0 L (⟨.slice none 0 0, e, size, 0, []⟩ :: M) w := by
  refine ⟨h.kq, h.blk, h.own, h.apart, fun r hr => ?_, fun r hr b hb => ?_, List.pairwise_cons.2 ⟨fun r _ => .inl rfl, h.rr⟩⟩
  · rcases List.mem_cons.1 hr with rfl | hr
    · exact World.ownsRow_nil _ _ _ _
    · exact h.rows r hr
  · rcases List.mem_cons.1 hr with rfl | hr
    · intro e; cases e
    · exact h.rb r hr b hb
/-- One of the slices has grown. -/
theorem St.grown {w0 : Base} {w w' : World} {L : List Bk} {M : List Rw} (h : St w0 L M w) (j : Nat) {v : Value} {e : TypeId} {size m : Nat} {xs : List Value} (hj : M[j]? = some ⟨v, e, size, m, xs⟩) {v' : Value} {m' : Nat} {xs' : List Value}
    (ho : w'.ownsRow w0.w.heap.size e size v' m' xs') (hg : w.grownBy w' v.ownBlock) (hfresh : v'.ownBlock = v.ownBlock ∨ ∀ g, v'.ownBlock = some g → w.heap.size ≤ g) : St w0 L (M.set j ⟨v', e, size, m', xs'⟩) w' := by
  have hm0 : (⟨v, e, size, m, xs⟩ : Rw) ∈ M := List.mem_of_getElem? hj
  have hjl : j < M.length := by
    rcases Nat.lt_or_ge j M.length with h3 | h3
    · exact h3
    · rw [List.getElem?_eq_none h3] at hj; cases hj
  have hgj : M[j] = ⟨v, e, size, m, xs⟩ := by rw [List.getElem?_eq_getElem hjl] at hj; exact Option.some.inj hj
  have hpw := List.pairwise_iff_getElem.1 h.rr
  have hbl : ∀ b ∈ L, Blk w' b.g b.t b.cs := fun b hb => (hg.block b.g (h.blk b hb).lt (fun e => h.rb _ hm0 b hb e.symm)).trans (h.blk b hb)
  have hnew : ∀ g, v'.ownBlock = some g → v.ownBlock = some g ∨ w.heap.size ≤ g := by
    intro g hg'
    rcases hfresh with e | e
    · exact .inl (e ▸ hg')
    · exact .inr (e g hg')
  have hot : KeepsX w w' := KeepsX.of_grownBy hg fun i o e hi => by
    rcases (h.rows _ hm0).2 with ⟨hv, _⟩ | ⟨g, cap, cur, hv, _, hgg, _⟩
    · simp only at hv; rw [hv] at e; cases e
    · simp only at hv hgg
      rw [hv] at e
      obtain rfl := Option.some.inj e
      rw [hgg] at hi; cases hi; rfl
  refine ⟨⟨⟨hg.os.trans h.kq.1.os, hg.tape.trans h.kq.1.tape, hg.output.trans h.kq.1.output, Nat.le_trans h.kq.size hg.size, fun k hk => ?_⟩, h.kq.2.trans hot⟩, hbl, h.own, h.apart, fun r hr => ?_, fun r hr b hb => ?_, List.pairwise_iff_getElem.2 fun x y hx hy hxy => ?_⟩
  · have hk' : k < w.heap.size := Nat.lt_of_lt_of_le hk h.kq.size
    rw [hg.block k hk' (fun e => by have := ((h.rows _ hm0).lt k e.symm).1; omega)]
    exact h.kq.1.block k hk
  · obtain ⟨i, hi, rfl⟩ := List.getElem_of_mem hr
    rw [List.length_set] at hi
    by_cases eij : j = i
    · subst eij; simp only [List.getElem_set_self]; exact ho
    · rw [List.getElem_set_ne eij]
      refine (h.rows _ (List.getElem_mem hi)).kept hg ?_
      rcases Nat.lt_or_gt_of_ne eij with hlt | hgt
      · rcases hpw j i hjl hi hlt with e | e
        · rw [hgj] at e
          cases hv : M[i].v.ownBlock with
          | none => exact .inl rfl
          | some g => exact .inr (by rw [e]; simp)
        · rw [hgj] at e; exact .inr (Ne.symm e)
      · rcases hpw i j hi hjl hgt with e | e
        · exact .inl e
        · rw [hgj] at e; exact .inr e
  · obtain ⟨i, hi, rfl⟩ := List.getElem_of_mem hr
    rw [List.length_set] at hi
    by_cases eij : j = i
    · subst eij
      simp only [List.getElem_set_self]
      intro e
      rcases hnew _ e with e' | e'
      · exact h.rb _ hm0 b hb e'
      · have := (h.blk b hb).lt; omega
    · rw [List.getElem_set_ne eij]; exact h.rb _ (List.getElem_mem hi) b hb
  · rw [List.length_set] at hx hy
    by_cases e1 : j = x
    · subst e1
      rw [List.getElem_set_self, List.getElem_set_ne (by omega)]
      cases hv : v'.ownBlock with
      | none => exact .inl rfl
      | some g =>
        refine .inr ?_
        intro e
        rcases hnew g hv with e' | e'
        · rcases hpw j y hjl hy hxy with e3 | e3
          · rw [hgj] at e3; simp only at e3; rw [e3] at e'; cases e'
          · rw [hgj] at e3; exact e3 (e'.trans e)
        · have := ((h.rows _ (List.getElem_mem hy)).lt g e.symm).2; omega
    · by_cases e2 : j = y
      · subst e2
        rw [List.getElem_set_self, List.getElem_set_ne e1]
        cases hv : M[x].v.ownBlock with
        | none => exact .inl rfl
        | some g =>
          refine .inr ?_
          show some g ≠ v'.ownBlock
          intro e
          rcases hnew g e.symm with e' | e'
          · rcases hpw x j hx hjl hxy with e3 | e3
            · rw [e3] at hv; cases hv
            · rw [hgj] at e3; exact e3 (hv.trans e'.symm)
          · have := ((h.rows _ (List.getElem_mem hx)).lt g hv).2; omega
      · rw [List.getElem_set_ne e1, List.getElem_set_ne e2]
        exact hpw x y hx hy hxy
/-- A slice that is not empty is a block. -/
theorem St.openRow {w0 : Base} {w : World} {L : List Bk} {M : List Rw} {v : Value} {e : TypeId} {size m : Nat} {xs : List Value} (h : St w0 L (⟨v, e, size, m, xs⟩ :: M) w) (hm : 0 < m) :
    ∃ g cap cur, v = .slice (some ⟨g, 0, none⟩) m cap ∧ m ≤ cap ∧ cur.size = cap * size ∧ cur.toList.take (m * size) = xs ∧ St w0 (⟨g, e, cur, true⟩ :: L) M w := by
  have hro := h.rows _ (List.mem_cons_self ..)
  rcases hro.2 with ⟨_, h0⟩ | ⟨g, cap, cur, hv, hb, hgg, h1, h2, h3, h4⟩
  · simp only at h0; omega
  · simp only at hv hgg h1 h3 h4 hb
    have hne : ∀ b ∈ L, b.g ≠ g := fun b hb' e => h.rb _ (List.mem_cons_self ..) b hb' (by simp only [hv, Value.ownBlock, e])
    refine ⟨g, cap, cur, hv, h1, h3, h4, h.kq, fun b hm' => ?_, fun b hm' ho => ?_, List.pairwise_cons.2 ⟨fun b hm' _ => Ne.symm (hne b hm'), h.apart⟩, fun r hr => h.rows r (List.mem_cons_of_mem _ hr), fun r hr b hm' => ?_, (List.pairwise_cons.1 h.rr).2⟩
    · rcases List.mem_cons.1 hm' with rfl | hm'
      · exact hgg
      · exact h.blk b hm'
    · rcases List.mem_cons.1 hm' with rfl | hm'
      · exact hb
      · exact h.own b hm' ho
    · rcases List.mem_cons.1 hm' with rfl | hm'
      · intro e'
        rcases (List.pairwise_cons.1 h.rr).1 r hr with e3 | e3
        · simp only [hv, Value.ownBlock] at e3; cases e3
        · exact e3 (by rw [e']; simp only [hv]; rfl)
      · exact h.rb r (List.mem_cons_of_mem _ hr) b hm'

/-! ### Single operations: what they give, whatever the world -/
section
variable {P : Program} {ops : Array Oper} {Q : Exit → Act → World → Prop} {n : Sz} {a : Act} {w0 : Base} {w : World} {F : Fm} {L : List Bk} {M : List Rw} {rest : List Oper}

/-- In a frame that holds these values and a world that holds these blocks the operation gives v, and does nothing else. -/
def Gives (P : Program) (F : Fm) (w0 : Base) (L : List Bk) (M : List Rw) (op : Op) (v : Value) : Prop :=
  ∀ (n : Sz) (a : Act) (w : World), Fr n a F → St w0 L M w → ∀ (d : Option Tmp) (ty : TypeId) (pos : String) (aft : Array Edge) (gd : Option (Nat × Bool)), (execOp a.eval ⟨d, op, ty, pos, aft, gd⟩).run P w = .ok (.value v) w

theorem g_move {x : Operand} {v : Value} (hx : evO F x = some v) : Gives P F w0 L M (.move x) v := fun _ _ _ hA _ _ _ _ _ _ => by simp [execOp, hA.ev hx]
theorem g_assign {x : Operand} {v : Value} (hx : evO F x = some v) : Gives P F w0 L M (.assign x) v := fun _ _ _ hA _ _ _ _ _ _ => by simp [execOp, hA.ev hx]
theorem g_pick {c x y : Operand} {b : Bool} {v : Value} (hc : evO F c = some (.bool b)) (hv : (bif b then evO F x else evO F y) = some v) : Gives P F w0 L M (.pick c x y) v := fun _ _ _ hA _ _ _ _ _ _ => by
  cases b
  · simp [execOp, hA.ev hc, asBool, hA.ev (show evO F y = some v from hv)]
  · simp [execOp, hA.ev hc, asBool, hA.ev (show evO F x = some v from hv)]
theorem g_pick_t {c x y : Operand} {b : Bool} {v : Value} (hc : evO F c = some (.bool b)) (h : b = true) (hv : evO F x = some v) : Gives P F w0 L M (.pick c x y) v := g_pick hc (by rw [h]; exact hv)
theorem g_pick_f {c x y : Operand} {b : Bool} {v : Value} (hc : evO F c = some (.bool b)) (h : b = false) (hv : evO F y = some v) : Gives P F w0 L M (.pick c x y) v := g_pick hc (by rw [h]; exact hv)
theorem g_extract {x : Operand} {i : Nat} {u v : Value} (hx : evO F x = some u) (hr : ∀ w, (Instr.extract u i).run P w = .ok v w) : Gives P F w0 L M (.extract x i) v := fun _ _ w hA _ _ _ _ _ _ => by simp [execOp, hA.ev hx, hr w]
theorem g_field {t : TypeId} {x : Operand} {i : Nat} {u v : Value} (hx : evO F x = some u) (hr : ∀ w, (Instr.fieldAt t u i).run P w = .ok v w) : Gives P F w0 L M (.fieldAddr t x i) v := fun _ _ w hA _ _ _ _ _ _ => by simp [execOp, hA.ev hx, hr w]
theorem g_fieldv {t : TypeId} {x : Operand} {i : Nat} {u v : Value} (hx : evO F x = some u) (hr : ∀ w, (Instr.field t u i).run P w = .ok v w) : Gives P F w0 L M (.field t x i) v := fun _ _ w hA _ _ _ _ _ _ => by simp [execOp, hA.ev hx, hr w]
theorem g_index {t : TypeId} {x y : Operand} {u k v : Value} (hx : evO F x = some u) (hy : evO F y = some k) (hr : ∀ w, (Instr.indexAt t u k).run P w = .ok v w) : Gives P F w0 L M (.indexAddr t x y) v := fun _ _ w hA _ _ _ _ _ _ => by simp [execOp, hA.ev hx, hA.ev hy, hr w]
theorem g_indexv {t : TypeId} {x y : Operand} {u k v : Value} (hx : evO F x = some u) (hy : evO F y = some k) (hr : ∀ w, (Instr.index t u k).run P w = .ok v w) : Gives P F w0 L M (.index t x y) v := fun _ _ w hA _ _ _ _ _ _ => by simp [execOp, hA.ev hx, hA.ev hy, hr w]
theorem g_bin {op : BinOp} {t t' : TypeId} {x y : Operand} {u k v : Value} (hx : evO F x = some u) (hy : evO F y = some k) (hg : ∀ w, (eqGuard op t x y u k).run P w = .ok () w) (hr : ∀ w, (binOp op t u k).run P w = .ok v w) : Gives P F w0 L M (.binOp op t x y t') v := fun _ _ w hA _ _ _ _ _ _ => by simp [execOp, hA.ev hx, hA.ev hy, hg w, hr w]
theorem g_un {op : UnOp} {t : TypeId} {x : Operand} {u v : Value} (hx : evO F x = some u) (hr : ∀ w, (Op.unary op u).run P w = .ok v w) : Gives P F w0 L M (.unOp op t x) v := fun _ _ w hA _ _ _ _ _ _ => by simp [execOp, hA.ev hx, hr w]
theorem g_conv {t t' : TypeId} {x : Operand} {u v : Value} (hx : evO F x = some u) (hr : ∀ w, (convert t t' u).run P w = .ok v w) : Gives P F w0 L M (.convert t t' x) v := fun _ _ w hA _ _ _ _ _ _ => by simp [execOp, hA.ev hx, hr w]
theorem g_nil {x : Operand} {ad : Addr} (hx : evO F x = some (.pointer (some ad))) : Gives P F w0 L M (.nilCheck x) (.pointer (some ad)) := fun _ _ w hA _ _ _ _ _ _ => by simp [execOp, hA.ev hx]
theorem g_nilF {x : Operand} {f : FuncId} {fs cs : Array Value} (hx : evO F x = some (.func (.func f) fs cs)) : Gives P F w0 L M (.nilCheck x) (.func (.func f) fs cs) := fun _ _ w hA _ _ _ _ _ _ => by simp [execOp, hA.ev hx]
theorem g_slice {t : TypeId} {x : Operand} {lo hi mx : Option Operand} {u v : Value} {lo' hi' mx' : Option Value} (hx : evO F x = some u) (hl : lo.map (evO F) = lo'.map some) (hh : hi.map (evO F) = hi'.map some) (hm : mx.map (evO F) = mx'.map some) (hr : ∀ w, (Instr.sliceAt t u lo' hi' mx').run P w = .ok v w) : Gives P F w0 L M (.slice t x lo hi mx) v := fun _ a w hA _ _ _ _ _ _ => by
  have key : ∀ (o : Option Operand) (o' : Option Value), o.map (evO F) = o'.map some → o.map a.eval = o' := by
    intro o o' h
    cases o <;> cases o' <;> simp at h ⊢
    exact hA.ev h
  simp [execOp, hA.ev hx, key _ _ hl, key _ _ hh, key _ _ hm, hr w]
theorem g_s2a {t : TypeId} {x : Operand} {u v : Value} (hx : evO F x = some u) (hr : ∀ w, (Instr.arrayAt t u).run P w = .ok v w) : Gives P F w0 L M (.sliceToArrayPointer t x) v := fun _ _ w hA _ _ _ _ _ _ => by simp [execOp, hA.ev hx, hr w]
/-- The values of some operands. -/
def evL (F : Fm) (ps : List (Nat × Operand)) : Option (List (Nat × Value)) :=
  match ps with
  | [] => some []
  | (i, x) :: l => match evO F x, evL F l with | some v, some r => some ((i, v) :: r) | _, _ => none
theorem evL_map {n : Sz} {a : Act} {F : Fm} (hA : Fr n a F) : ∀ {ps : List (Nat × Operand)} {r : List (Nat × Value)}, evL F ps = some r → ps.map (fun p => (p.1, a.eval p.2)) = r
  | [], r, h => by simp [evL] at h; simp [h]
  | (i, x) :: l, r, h => by
    simp only [evL] at h
    cases h1 : evO F x with
    | none => rw [h1] at h; cases h
    | some v =>
      cases h2 : evL F l with
      | none => rw [h1, h2] at h; cases h
      | some s =>
        rw [h1, h2] at h
        simp only [Option.some.injEq] at h
        rw [← h, List.map_cons, hA.ev h1, evL_map hA h2]
theorem g_build {t : TypeId} {ps : List (Nat × Operand)} {r : List (Nat × Value)} {v : Value} (hp : evL F ps = some r) (hr : ∀ w, (Instr.build t r.toArray).run P w = .ok v w) : Gives P F w0 L M (.build t ps.toArray) v := fun _ a w hA _ _ _ _ _ _ => by
  have e : ps.toArray.map (fun (p : Nat × Operand) => (p.1, a.eval p.2)) = r.toArray := by rw [List.map_toArray, evL_map hA hp]
  have := hr w
  simp only [execOp]
  show ((do pure (Next.value (← Instr.build t (ps.toArray.map fun (p : Nat × Operand) => (p.1, a.eval p.2))))) : Sem Next).run P w = _
  rw [e]
  simp [this]
theorem g_func {fn : Fn} {xs ys : List Operand} {us vs : List (Nat × Value)} {v : Value} (hx : evL F (xs.map fun x => (0, x)) = some us) (hy : evL F (ys.map fun x => (0, x)) = some vs) (hr : ∀ w, (Instr.makeFunc fn (us.map (·.2)).toArray (vs.map (·.2)).toArray).run P w = .ok v w) : Gives P F w0 L M (.makeFunc fn xs.toArray ys.toArray) v := fun _ a w hA _ _ _ _ _ _ => by
  have key : ∀ {l : List Operand} {r : List (Nat × Value)}, evL F (l.map fun x => (0, x)) = some r → l.map a.eval = r.map (·.2) := by
    intro l r h
    have := congrArg (List.map (·.2)) (evL_map hA h)
    rw [List.map_map, List.map_map] at this
    exact this
  simp only [execOp, List.map_toArray, key hx, key hy]
  simp [hr w]

/-- What a load gives at a place of a block. -/
def rowVal (P : Program) (ty : TypeId) (cs : Array Value) (off : Nat) : Option Value :=
  match P.underlying ty with
  | none => none
  | some (.struct _) | some (.array _ _) =>
    match (P.info? ty).map (·.size) with
    | some m => bif Nat.ble (off + m) cs.size then some (.agg (cs.extract off (off + m))) else none
    | none => none
  | some _ => cs[off]?
theorem rangeAt_extract {w : World} {g : Nat} {t : TypeId} {cs : Array Value} (h : Blk w g t cs) (off m : Nat) : w.rangeAt g off (cs.extract off (off + m)).toList := by
  intro j v hv
  rw [h.cell]
  simp only [Array.toList_extract, List.extract_eq_take_drop] at hv
  rw [List.getElem?_take] at hv
  split at hv
  · rw [List.getElem?_drop] at hv; simpa using hv
  · cases hv
theorem run_loadVar_rowVal {ty : TypeId} {g off : Nat} {t : TypeId} {cs : Array Value} {v : Value} (hb : Blk w g t cs) (hv : rowVal P ty cs off = some v) : (loadVar ty ⟨g, off, none⟩).run P w = .ok v w := by
  unfold rowVal at hv
  have hc : ∀ d, P.underlying ty = some d → d.isRow = false → cs[off]? = some v → (loadVar ty ⟨g, off, none⟩).run P w = .ok v w := by
    intro d hd hf hcell
    have hcc : w.cell? ⟨g, off, none⟩ = some v := by rw [hb.cell, hcell]
    have hi : (isAgg ty).run P w = .ok false w := by
      unfold isAgg
      rw [Sem.run_bind, run_underlying hd]
      cases d <;> first | rfl | cases hf
    unfold loadVar
    rw [Sem.run_bind, hi]
    simp only [Result.andThen_ok]
    rw [if_neg (by decide), run_load, hcc]
  cases hu : P.underlying ty with
  | none => rw [hu] at hv; cases hv
  | some d =>
    rw [hu] at hv
    have hagg : d.isRow = true → (match (P.info? ty).map (·.size) with | some m => bif Nat.ble (off + m) cs.size then some (Value.agg (cs.extract off (off + m))) else none | none => none) = some v → (loadVar ty ⟨g, off, none⟩).run P w = .ok v w := by
      intro hd hv'
      cases hs : (P.info? ty).map (·.size) with
      | none => rw [hs] at hv'; cases hv'
      | some m =>
        rw [hs] at hv'
        simp only at hv'
        cases hble : Nat.ble (off + m) cs.size with
        | false => rw [hble] at hv'; cases hv'
        | true =>
          rw [hble] at hv'
          simp only [cond_true, Option.some.injEq] at hv'
          subst hv'
          have hm := Nat.le_of_ble_eq_true hble
          have := run_loadVar_mid w g off ty (cs.extract off (off + m)).toList d (rangeAt_extract hb off m) hu hd (by rw [hs]; simp; omega)
          rw [Array.toArray_toList] at this
          exact this
    cases d <;> first | exact hagg rfl hv | exact hc _ hu rfl hv
theorem rowVal_whole {ty : TypeId} {cs : Array Value} {m : Nat} (hn : cs.size = m) (hr : IsRow P ty m) : rowVal P ty cs 0 = some (.agg cs) := by
  obtain ⟨⟨d, hu, hd⟩, hi⟩ := hr
  have key : (match (P.info? ty).map (·.size) with | some m => bif Nat.ble (0 + m) cs.size then some (Value.agg (cs.extract 0 (0 + m))) else none | none => none) = some (.agg cs) := by
    rw [hi]
    simp only
    rw [show Nat.ble (0 + m) cs.size = true by rw [Nat.ble_eq]; omega]
    simp only [cond_true, Nat.zero_add]
    rw [← hn, Array.extract_size]
  unfold rowVal
  rw [hu]
  cases d <;> first | exact key | cases hd
theorem g_load {ty : TypeId} {x : Operand} {g off : Nat} {v : Value} (i : Nat) {t : TypeId} {cs : Array Value} {o : Bool} (hx : evO F x = some (.pointer (some ⟨g, off, none⟩))) (hb : L[i]? = some ⟨g, t, cs, o⟩) (hv : rowVal P ty cs off = some v) : Gives P F w0 L M (.load ty x) v := fun _ _ w hA hS _ _ _ _ _ => by
  simp only [execOp, hA.ev hx, Instr.loadAt, Instr.sureAddr, Sem.run_bind, Sem.run_pure, Result.andThen_ok, run_loadVar_rowVal (hS.get i hb) hv]
/-- A whole array, of n cells. -/
theorem g_loadW {ty : TypeId} {x : Operand} {g m : Nat} (i : Nat) {t : TypeId} {cs : Array Value} {o : Bool} (hx : evO F x = some (.pointer (some ⟨g, 0, none⟩))) (hb : L[i]? = some ⟨g, t, cs, o⟩) (hn : cs.size = m) (hr : IsRow P ty m) : Gives P F w0 L M (.load ty x) (.agg cs) := fun _ _ w hA hS _ _ _ _ _ => by
  simp only [execOp, hA.ev hx, Instr.loadAt, Instr.sureAddr, Sem.run_bind, Sem.run_pure, Result.andThen_ok, run_loadVar_blk (hS.get i hb) hn hr]

/-! ### Steps in a list of operations -/
theorem s_one {d : Nat} {op : Op} {ty : TypeId} {pos : String} {aft : Array Edge} (v : Value) (hA : Fr n a F) (hS : St w0 L M w) (hg : Gives P F w0 L M op v) (hd : Nat.blt d n = true)
    (k : ∀ a', Fr n a' ((d, v) :: F) → wpList P ops Q rest a' w) : wpList P ops Q (⟨some d, op, ty, pos, aft, none⟩ :: rest) a w := by
  refine wpList_plain rfl fun K hK => ?_
  unfold Oper.wp
  rw [hg n a w hA hS]
  exact hK _ _ (k _ (hA.put (blt_lt hd) v))

/-- Whether a guarded operation is carried out. -/
theorem wanted_of {o : Oper} {j dj : Nat} {want b : Bool} (hA : Fr n a F) (hgd : o.guard = some (j, want)) (hj : (ops[j]?).bind (·.dst) = some dj) (hb : look F dj = some (.bool b)) : Region.wanted o (yielded ops a.tmps) = (b == want) := by
  have h1 := hA.val dj _ hb
  have h2 : yielded ops a.tmps j = some b := by unfold yielded; rw [hj]; simp only [Option.bind_some, h1]
  simp only [Region.wanted, hgd, h2]
  cases b <;> cases want <;> rfl
/-- A guard that was itself passed over. -/
theorem wanted_undef {o : Oper} {j dj : Nat} {want : Bool} (hA : Fr n a F) (hgd : o.guard = some (j, want)) (hj : (ops[j]?).bind (·.dst) = some dj) (hb : look F dj = some undef) : Region.wanted o (yielded ops a.tmps) = false := by
  have h1 := hA.val dj _ hb
  have h2 : yielded ops a.tmps j = none := by unfold yielded; rw [hj]; simp only [Option.bind_some, h1, undef]
  simp only [Region.wanted, hgd, h2]
  cases want <;> rfl
theorem s_notU {d : Nat} {op : Op} {ty : TypeId} {pos : String} {aft : Array Edge} {j dj : Nat} {want : Bool} (hA : Fr n a F) (hj : (ops[j]?).bind (·.dst) = some dj) (hb : look F dj = some undef) (hd : Nat.blt d n = true)
    (k : ∀ a', Fr n a' ((d, undef) :: F) → wpList P ops Q rest a' w) : wpList P ops Q (⟨some d, op, ty, pos, aft, some (j, want)⟩ :: rest) a w :=
  wpList_skip (wanted_undef hA rfl hj hb) (k _ (hA.put (blt_lt hd) undef))
theorem s_want {d : Option Tmp} {op : Op} {ty : TypeId} {pos : String} {aft : Array Edge} {j dj : Nat} {want b : Bool} (hA : Fr n a F) (hj : (ops[j]?).bind (·.dst) = some dj) (hb : look F dj = some (.bool b)) (h : b = want)
    (k : wpList P ops Q (⟨d, op, ty, pos, aft, none⟩ :: rest) a w) : wpList P ops Q (⟨d, op, ty, pos, aft, some (j, want)⟩ :: rest) a w := by
  have hw : Region.wanted ⟨d, op, ty, pos, aft, some (j, want)⟩ (yielded ops a.tmps) = true := by rw [wanted_of hA rfl hj hb, h]; cases want <;> rfl
  have hw' : Region.wanted ⟨d, op, ty, pos, aft, none⟩ (yielded ops a.tmps) = true := rfl
  unfold wpList at k ⊢
  rw [if_pos hw]
  rw [if_pos hw'] at k
  exact k
theorem s_not {d : Nat} {op : Op} {ty : TypeId} {pos : String} {aft : Array Edge} {j dj : Nat} {want b : Bool} (hA : Fr n a F) (hj : (ops[j]?).bind (·.dst) = some dj) (hb : look F dj = some (.bool b)) (h : b = !want) (hd : Nat.blt d n = true)
    (k : ∀ a', Fr n a' ((d, undef) :: F) → wpList P ops Q rest a' w) : wpList P ops Q (⟨some d, op, ty, pos, aft, some (j, want)⟩ :: rest) a w := by
  refine wpList_skip ?_ (k _ (hA.put (blt_lt hd) undef))
  rw [wanted_of hA rfl hj hb, h]; cases want <;> rfl

/-! Memory. -/
theorem s_alloc {d : Nat} {t ty : TypeId} {pos : String} {aft : Array Edge} (cells : Array Value) (hA : Fr n a F) (hS : St w0 L M w) (hz : ((P.info? t).bind (·.zero)).map (·.cells) = some cells) (hd : Nat.blt d n = true)
    (k : ∀ g a' w', Fr n a' ((d, .pointer (some ⟨g, 0, none⟩)) :: F) → St w0 (⟨g, t, cells, true⟩ :: L) M w' → wpList P ops Q rest a' w') : wpList P ops Q (⟨some d, .alloc t, ty, pos, aft, none⟩ :: rest) a w :=
  wl_alloc rfl t rfl cells hz fun g w' l hb hbl => k g _ w' (hA.put (blt_lt hd) _) (hS.new l hb hbl)
theorem s_box {d : Nat} {t ty : TypeId} {x : Operand} {pos : String} {aft : Array Edge} (v : Value) (hA : Fr n a F) (hS : St w0 L M w) (hx : evO F x = some v) (hd : Nat.blt d n = true)
    (k : ∀ g a' w', Fr n a' ((d, .pointer (some ⟨g, 0, none⟩)) :: F) → St w0 (⟨g, t, v.cells, true⟩ :: L) M w' → wpList P ops Q rest a' w') : wpList P ops Q (⟨some d, .box t x, ty, pos, aft, none⟩ :: rest) a w := by
  refine wpList_plain rfl fun K hK => ?_
  unfold Oper.wp execOp
  have h' := hK _ _ (k w.heap.size _ _ (hA.put (blt_lt hd) _) (hS.new (Nat.le_refl _) (Blk.new w t v.cells) ((Below.refl _ _).alloc (Nat.le_refl _) _)))
  simp only [hA.ev hx, Instr.box, newVar, newRow]
  simp
  exact h'
/-- Cells written one behind the other. -/
def wr : Array Value → Nat → List Value → Array Value
  | cs, _, [] => cs
  | cs, k, v :: l => wr (cs.setIfInBounds k v) (k + 1) l
theorem run_storeCells_blk {g : Nat} {t : TypeId} (off : Nat) : ∀ (vs : List Value) (i : Nat) (cs : Array Value) (w : World), Blk w g t cs → off + i + vs.length ≤ cs.size → (∀ v ∈ vs, v.oneCell' = true) →
    ∃ w', (storeCells ⟨g, off, none⟩ vs i).run P w = .ok () w' ∧ Blk w' g t (wr cs (off + i) vs) ∧ Turn g w w'
  | [], _, cs, w, hb, _, _ => ⟨w, rfl, hb, rfl, rfl, rfl, rfl, fun _ _ => rfl⟩
  | v :: l, i, cs, w, hb, hl, h1 => by
    have hlt : off + i < cs.size := by simp at hl; omega
    have hadd : (⟨g, off, none⟩ : Addr).add i = ⟨g, off + i, none⟩ := Addr.add_mid _ _ _
    have hcell : w.cell? ⟨g, off + i, none⟩ = some cs[off + i] := by rw [hb.cell, Array.getElem?_eq_getElem hlt]
    have hst : (store ((⟨g, off, none⟩ : Addr).add i) v).run P w = .ok () (w.setCell ⟨g, off + i, none⟩ v) := by
      rw [hadd, run_store P w _ v _ (h1 v (by simp)), hcell]
      simp [hb.free]
    obtain ⟨w', hr, hb', ht⟩ := run_storeCells_blk off l (i + 1) (cs.setIfInBounds (off + i) v) (w.setCell ⟨g, off + i, none⟩ v) (hb.set_ _ _) (by simp at hl ⊢; omega) (fun x hx => h1 x (by simp [hx]))
    have ht0 := Turn.setCell w g (off + i) v
    refine ⟨w', ?_, hb', ?_⟩
    · simp only [storeCells, Sem.run_bind, hst, Result.andThen_ok, hr]
    · exact ⟨ht.os.trans ht0.os, ht.tape.trans ht0.tape, ht.output.trans ht0.output, ht.size.trans ht0.size, fun k hk => (ht.block k hk).trans (ht0.block k hk)⟩
/-- What a block holds behind a store at a place. -/
def putVal (P : Program) (ty : TypeId) (cs : Array Value) (off : Nat) (v : Value) : Option (Array Value) :=
  match (P.info? ty).map (·.size) with
  | some m => bif Nat.beq v.cells.size m && (Nat.ble (off + m) cs.size && v.cells.toList.all (·.oneCell')) then some (wr cs off v.cells.toList) else none
  | none => none
theorem run_storeVar_blk {ty : TypeId} {g off : Nat} {t : TypeId} {cs cs' : Array Value} {v : Value} (hb : Blk w g t cs) (hv : putVal P ty cs off v = some cs') :
    ∃ w', (storeVar ty ⟨g, off, none⟩ v).run P w = .ok () w' ∧ Blk w' g t cs' ∧ Turn g w w' := by
  unfold putVal at hv
  cases hs : (P.info? ty).map (·.size) with
  | none => rw [hs] at hv; cases hv
  | some m =>
    rw [hs] at hv
    simp only at hv
    cases hq : (Nat.beq v.cells.size m && (Nat.ble (off + m) cs.size && v.cells.toList.all (·.oneCell'))) with
    | false => rw [hq] at hv; cases hv
    | true =>
      rw [hq] at hv
      simp only [cond_true, Option.some.injEq] at hv
      subst hv
      rw [Bool.and_eq_true, Bool.and_eq_true] at hq
      obtain ⟨h1, h2, h3⟩ := hq
      have h1' := Nat.eq_of_beq_eq_true h1
      have h2' := Nat.le_of_ble_eq_true h2
      obtain ⟨w', hr, hb', ht⟩ := run_storeCells_blk (P := P) (t := t) off v.cells.toList 0 cs w hb (by simp; omega) (fun x hx => (List.all_eq_true.1 h3) x hx)
      refine ⟨w', ?_, hb', ht⟩
      cases hi : P.info? ty with
      | none => rw [hi] at hs; cases hs
      | some ti =>
        rw [hi] at hs
        simp only [Option.map_some, Option.some.injEq] at hs
        simp [storeVar, sizeOf, typeInfo, hi, h1', hs, hr]
theorem s_store {ty : TypeId} {x y : Operand} {ty' : TypeId} {pos : String} {aft : Array Edge} {g off : Nat} {v : Value} {t : TypeId} {cs : Array Value} (i : Nat) (cs' : Array Value) (hA : Fr n a F) (hS : St w0 L M w) (hx : evO F x = some (.pointer (some ⟨g, off, none⟩))) (hy : evO F y = some v) (hb : L[i]? = some ⟨g, t, cs, true⟩) (hv : putVal P ty cs off v = some cs')
    (k : ∀ w', St w0 (L.set i ⟨g, t, cs', true⟩) M w' → wpList P ops Q rest a w') : wpList P ops Q (⟨none, .store ty x y, ty', pos, aft, none⟩ :: rest) a w := by
  refine wpList_plain rfl fun K hK => ?_
  obtain ⟨w', hr, hb', ht⟩ := run_storeVar_blk (P := P) (hS.get i hb) hv
  unfold Oper.wp
  simp only [execOp, hA.ev hx, hA.ev hy, Instr.storeAt, Instr.sureAddr, Sem.run_bind, Sem.run_pure, Result.andThen_ok, hr]
  exact hK _ _ (k w' (hS.set i hb hb' ht))
/-- Of a whole array of m cells. -/
theorem putVal_whole {ty : TypeId} {cs cs' : Array Value} {m : Nat} (hn : cs.size = m) (hn' : cs'.size = m) (hr : IsRow P ty m) (h1 : cs'.all (·.oneCell') = true) : putVal P ty cs 0 (.agg cs') = some cs' := by
  have key : ∀ (l : List Value) (k : Nat) (c : Array Value), k + l.length = c.size → wr c k l = (c.toList.take k ++ l).toArray := by
    intro l
    induction l with
    | nil => intro k c h; simp only [wr, List.append_nil]; rw [List.take_of_length_le (by simp at h ⊢; omega)]
    | cons v l ih =>
      intro k c h
      simp only [wr]
      rw [ih (k + 1) _ (by simp at h ⊢; omega)]
      have hk : k < c.toList.length := by simp at h ⊢; omega
      congr 1
      rw [Array.toList_setIfInBounds, List.take_add_one, List.getElem?_set_self hk, List.take_set_of_le (Nat.le_refl k)]
      simp
  unfold putVal
  rw [hr.2]
  simp only [Value.cells]
  rw [show Nat.beq cs'.size m = true by rw [Nat.beq_eq]; exact hn', show Nat.ble (0 + m) cs.size = true by rw [Nat.ble_eq]; omega, show cs'.toList.all (·.oneCell') = true by rw [Array.all_toList]; exact h1]
  simp only [Bool.and_true, cond_true]
  rw [key cs'.toList 0 cs (by simp; omega)]
  simp

/-! Calls. -/
theorem evA_map {F : Fm} (hA : Fr n a F) {l : List Operand} {r : List (Nat × Value)} (h : evL F (l.map fun x => (0, x)) = some r) : l.map a.eval = r.map (·.2) := by
  have := congrArg (List.map (·.2)) (evL_map hA h)
  rw [List.map_map, List.map_map] at this
  exact this
/-- What a call comes to: it enters f with these arguments. -/
theorem run_call {f : FuncId} {fx : Operand} {args : List Operand} {ats : Array TypeId} {fs cp av : Array Value} {r : List (Nat × Value)} {d : Option Tmp} {ty : TypeId} {pos : String} {aft : Array Edge} {gd : Option (Nat × Bool)} (hA : Fr n a F)
    (hf : evO F fx = some (.func (.func f) fs cp)) (hr : evL F (args.map fun x => (0, x)) = some r) (hav : fs ++ (r.map (·.2)).toArray ++ cp = av) (hcall : ∀ (as : Array Value) (w : World), (callFunc f as).run P w = .ok (.enter f as) w) :
    (execOp a.eval ⟨d, .call ⟨.value fx, args.toArray, ats⟩, ty, pos, aft, gd⟩).run P w = .ok (.enter f av) w := by
  simp only [execOp, resolve, hA.ev hf, Deferred.ofValue, invoke, List.map_toArray, evA_map hA hr, Sem.run_bind, Sem.run_pure, Result.andThen_ok, hav]
  exact hcall _ _
theorem s_call {d : Nat} {f : FuncId} {fx : Operand} {args : List Operand} {ats : Array TypeId} {ty : TypeId} {pos : String} {aft : Array Edge} {fs cp : Array Value} {r : List (Nat × Value)} (av : Array Value) (v : Value) (hA : Fr n a F) (hS : St w0 L M w)
    (hc : Calls P f av w fun e w' => e = .returned v ∧ Below w.heap.size w w') (hcall : ∀ (as : Array Value) (w : World), (callFunc f as).run P w = .ok (.enter f as) w)
    (hf : evO F fx = some (.func (.func f) fs cp)) (hr : evL F (args.map fun x => (0, x)) = some r) (hav : fs ++ (r.map (·.2)).toArray ++ cp = av) (hd : Nat.blt d n = true)
    (k : ∀ a' w', Fr n a' ((d, v) :: F) → St w0 L M w' → wpList P ops Q rest a' w') : wpList P ops Q (⟨some d, .call ⟨.value fx, args.toArray, ats⟩, ty, pos, aft, none⟩ :: rest) a w := by
  refine wpList_plain rfl fun K hK => ?_
  unfold Oper.wp
  rw [run_call hA hf hr hav hcall]
  refine hc.mono fun e w' ⟨he, hb⟩ => ?_
  subst he
  exact hK _ _ (k _ w' (hA.put (blt_lt hd) _) (hS.kept hb))
/-- A built-in function that only computes. -/
theorem g_built {b : Builtin} {args : List Operand} {ats : Array TypeId} {r : List (Nat × Value)} {v : Value} (hr : evL F (args.map fun x => (0, x)) = some r)
    (h : ∀ (ty : TypeId) (cs : Array Bool) (w : World), (builtin b ats ty cs (r.map (·.2)).toArray).run P w = .ok (.value v) w) : Gives P F w0 L M (.call ⟨.builtin b, args.toArray, ats⟩) v := fun _ _ w hA _ _ ty _ _ _ => by
  simp only [execOp, resolve, invoke, List.map_toArray, evA_map hA hr, Sem.run_bind, Sem.run_pure, Result.andThen_ok]
  exact h _ _ w

/-- A function of the library that the model answers itself. -/
theorem g_ext {f : FuncId} {fx : Operand} {args : List Operand} {ats : Array TypeId} {r : List (Nat × Value)} {v : Value} (hf : evO F fx = some (.func (.func f) #[] #[])) (hr : evL F (args.map fun x => (0, x)) = some r)
    (h : ∀ w, (callFunc f (r.map (·.2)).toArray).run P w = .ok (.value v) w) : Gives P F w0 L M (.call ⟨.value fx, args.toArray, ats⟩) v := fun _ _ w hA _ _ _ _ _ _ => by
  simp only [execOp, resolve, hA.ev hf, Deferred.ofValue, invoke, List.map_toArray, evA_map hA hr, Sem.run_bind, Sem.run_pure, Result.andThen_ok, Array.empty_append, Array.append_empty]
  exact h w

/-- The cells of a new slice. -/
def bsRow (P : Program) (t : TypeId) (len : Nat) (parts : List (Nat × Value)) : Option (TypeId × Array Value) :=
  match P.underlying t with
  | some (.slice elem) =>
    match P.info? elem with
    | some i =>
      if len * i.size > 2 ^ 24 then none else
      match (if len * i.size = 0 then some #[] else i.zero.map (·.cells)) with
      | some zero => (Instr.fill (fun k => some (k * i.size, i.size)) ((Array.range (len * i.size)).map (zero[· % zero.size]!)) parts).map fun c => (elem, c)
      | none => none
    | none => none
  | _ => none
theorem run_buildSlice {t e : TypeId} {len : Nat} {parts : List (Nat × Value)} {cells : Array Value} (h : bsRow P t len parts = some (e, cells)) :
    (Instr.buildSlice t len parts.toArray).run P w = .ok (.slice (some ⟨w.heap.size, 0, none⟩) len len) (w.alloc (.cells cells e)) := by
  unfold bsRow at h
  split at h
  · rename_i elem hu
    split at h
    · rename_i ti hi
      split at h
      · cases h
      · rename_i hb
        split at h
        · rename_i zero hz
          cases hf : Instr.fill (fun k => some (k * ti.size, ti.size)) ((Array.range (len * ti.size)).map (zero[· % zero.size]!)) parts with
          | none => rw [hf] at h; cases h
          | some c =>
            rw [hf] at h
            simp only [Option.map_some, Option.some.injEq, Prod.mk.injEq] at h
            obtain ⟨rfl, rfl⟩ := h
            unfold Instr.buildSlice
            simp only [Sem.run_bind, run_underlying hu, Result.andThen_ok, sizeOf, typeInfo]
            by_cases h0 : len * ti.size = 0
            · rw [if_pos h0] at hz
              simp only [Option.some.injEq] at hz
              subst hz
              simp [hi, h0] at hf ⊢
              simp [hf, newRow]
            · rw [if_neg h0] at hz
              cases hzz : ti.zero with
              | none => rw [hzz] at hz; cases hz
              | some zv =>
                rw [hzz] at hz
                simp only [Option.map_some, Option.some.injEq] at hz
                subst hz
                simp [hi, hb, h0, zeroValue, typeInfo, hzz, hf, newRow]
        · cases h
    · cases h
  · cases h
theorem s_bs {d : Nat} {t ty : TypeId} {len : Nat} {ps : List (Nat × Operand)} {pos : String} {aft : Array Edge} {r : List (Nat × Value)} {e : TypeId} (cells : Array Value) (hA : Fr n a F) (hS : St w0 L M w) (hp : evL F ps = some r) (hr : bsRow P t len r = some (e, cells)) (hd : Nat.blt d n = true)
    (k : ∀ g a' w', Fr n a' ((d, .slice (some ⟨g, 0, none⟩) len len) :: F) → St w0 (⟨g, e, cells, true⟩ :: L) M w' → wpList P ops Q rest a' w') : wpList P ops Q (⟨some d, .buildSlice t len ps.toArray, ty, pos, aft, none⟩ :: rest) a w := by
  refine wpList_plain rfl fun K hK => ?_
  have h' := hK _ _ (k w.heap.size _ _ (hA.put (blt_lt hd) _) (hS.new (Nat.le_refl _) (Blk.new w e cells) ((Below.refl _ _).alloc (Nat.le_refl _) _)))
  have em : ps.toArray.map (fun (p : Nat × Operand) => (p.1, a.eval p.2)) = r.toArray := by rw [List.map_toArray, evL_map hA hp]
  unfold Oper.wp execOp
  simp only
  show Oper.upon P _ a K Q (Sem.run P (do pure (Next.value (← Instr.buildSlice t len (ps.toArray.map fun (p : Nat × Operand) => (p.1, a.eval p.2))))) w)
  rw [em, Sem.run_bind, run_buildSlice hr]
  exact h'

/-- An append to a slice of the call's own. -/
theorem run_append_st {t e : TypeId} {ti : TypeInfo} {z : Value} {size bytes : Nat} (ht : P.underlying t = some (.slice e)) (hi : P.info? e = some ti) (hz : ti.zero = some z) (hsize : ti.size = size) (hby : ti.bytes = bytes) (hzs : z.cells.size = size) (hsz : 0 < size)
    (hS : St w0 L M w) (j : Nat) {v : Value} {m : Nat} {xs : List Value} (hj : M[j]? = some ⟨v, e, size, m, xs⟩) {ad : Addr} {m' c : Nat} {news : List Value} (hl : news.length = m' * size) (hnews : ∀ k u, news[k]? = some u → w.cell? (ad.add k) = some u) (h1 : ∀ u ∈ news, u.oneCell' = true)
    (h63 : m + m' ≤ maxLen) (hbytes : (m + m') * bytes ≤ 140737488355328) (ty : TypeId) :
    ∃ v' w', (Builtin.append_ #[t, t] ty #[v, .slice (some ad) m' c]).run P w = .ok v' w' ∧ St w0 L (M.set j ⟨v', e, size, m + m', xs ++ news⟩) w' := by
  have hown : w.ownsRow w0.w.heap.size e size v m xs := hS.row j hj
  obtain ⟨v', w', hr, ho, hg, -⟩ := run_append_own (P := P) w w0.w.heap.size t ty e ti z size bytes ht hi hz hsize hby hzs hsz v m xs hown ad m' c news hl hnews h1 h63 hbytes hS.kq.size
  refine ⟨v', w', hr, hS.grown j hj ho hg ?_⟩
  subst hsize
  subst hby
  have hsmall : m + m' ≤ 9223372036854775807 := by simp only [maxLen] at h63; omega
  rcases hown.2 with ⟨rfl, rfl⟩ | ⟨g, cap, cur, rfl, hbg, hgg, hnc, hcm, hcs, htake⟩
  · by_cases hm : m' = 0
    · subst hm
      have hn : news = [] := List.eq_nil_of_length_eq_zero (by simpa using hl)
      subst hn
      rcases ho.2 with ⟨rfl, _⟩ | ⟨g', cap', cur', rfl, _⟩
      · exact .inl rfl
      · exfalso
        have : (Builtin.append_ #[t, t] ty #[.slice none 0 0, .slice (some ad) 0 c]).run P w = .ok (.slice none 0 0) w := by
          simp [Builtin.append_, run_underlying ht, sizeOf, typeInfo, hi, Builtin.lenOf, Builtin.firstCells, loadCells, loadCellsFrom]
        rw [this] at hr
        cases hr
    · have hr2 := run_append_nil (P := P) w t ty e ti z ht hi hz ad m' c news hl hnews (by omega) (by omega) (by have hb := hbytes; simp only [Nat.zero_add] at hb; omega)
      rw [hr2] at hr
      simp only [Result.ok.injEq] at hr
      refine .inr fun g' hg' => ?_
      rw [← hr.1] at hg'
      simp only [Value.ownBlock, Option.some.injEq] at hg'
      omega
  · by_cases hroom : m + m' ≤ cap
    · have hfit : m * ti.size + news.length ≤ cur.size := by rw [hl, hcs, ← Nat.add_mul]; exact Nat.mul_le_mul_right _ hroom
      have hr2 := run_append_room (P := P) w t ty e ti ht hi g m cap cur hgg ad m' c news hl hnews h1 hroom hfit
      rw [hr2] at hr
      simp only [Result.ok.injEq] at hr
      refine .inl ?_
      rw [← hr.1]
      rfl
    · have holds : ∀ k u, xs[k]? = some u → w.cell? ((⟨g, 0, none⟩ : Addr).add k) = some u := hown.cells (g := g) rfl
      have hr2 := run_append_grow (P := P) w t ty e ti z ht hi hz ⟨g, 0, none⟩ m cap xs hown.1 holds ad m' c news hl hnews (by omega) (by omega) (growslice_fits (by omega) hbytes)
      rw [hr2] at hr
      simp only [Result.ok.injEq] at hr
      refine .inr fun g' hg' => ?_
      rw [← hr.1] at hg'
      simp only [Value.ownBlock, Option.some.injEq] at hg'
      omega
/-- What the elements of a slice type are: their type, cells and bytes. -/
def elemInfo (P : Program) (t : TypeId) : Option (TypeId × Nat × Nat) :=
  match P.underlying t with
  | some (.slice e) =>
    match P.info? e with
    | some i => match i.zero with
      | some z => bif Nat.beq z.cells.size i.size && Nat.blt 0 i.size then some (e, i.size, i.bytes) else none
      | none => none
    | none => none
  | _ => none
theorem elemInfo_spec {t e : TypeId} {size bytes : Nat} (h : elemInfo P t = some (e, size, bytes)) : ∃ ti z, P.underlying t = some (.slice e) ∧ P.info? e = some ti ∧ ti.zero = some z ∧ ti.size = size ∧ ti.bytes = bytes ∧ z.cells.size = size ∧ 0 < size := by
  unfold elemInfo at h
  split at h
  · rename_i e' hu
    split at h
    · rename_i ti hi
      split at h
      · rename_i z hz
        cases hb : (Nat.beq z.cells.size ti.size && Nat.blt 0 ti.size) with
        | false => rw [hb] at h; cases h
        | true =>
          rw [hb] at h
          simp only [cond_true, Option.some.injEq, Prod.mk.injEq] at h
          obtain ⟨rfl, rfl, rfl⟩ := h
          rw [Bool.and_eq_true] at hb
          exact ⟨ti, z, hu, hi, hz, rfl, rfl, Nat.eq_of_beq_eq_true hb.1, blt_lt hb.2⟩
      · cases h
    · cases h
  · cases h
theorem cells_of_blk {g m : Nat} {t : TypeId} {cs : Array Value} (hb : Blk w g t cs) : ∀ k u, (cs.toList.take m)[k]? = some u → w.cell? ((⟨g, 0, none⟩ : Addr).add k) = some u := by
  intro k u hu
  rw [show (⟨g, 0, none⟩ : Addr).add k = ⟨g, k, none⟩ by rw [Addr.add_mid, Nat.zero_add], hb.cell]
  rw [List.getElem?_take] at hu
  split at hu
  · simpa using hu
  · cases hu
theorem s_append {d : Nat} {s x : Operand} {t ty : TypeId} {pos : String} {aft : Array Edge} {e e' : TypeId} {size bytes g m m' c : Nat} {v : Value} {xs : List Value} {cs : Array Value} {o : Bool} (j i : Nat) (news : List Value) (hA : Fr n a F) (hS : St w0 L M w) (he : elemInfo P t = some (e, size, bytes))
    (hs : evO F s = some v) (hx : evO F x = some (.slice (some ⟨g, 0, none⟩) m' c)) (hj : M[j]? = some ⟨v, e, size, m, xs⟩) (hi : L[i]? = some ⟨g, e', cs, o⟩) (hn : cs.toList.take (m' * size) = news) (hl0 : Nat.ble (m' * size) cs.size = true) (h1 : news.all (·.oneCell') = true)
    (h63 : (m + m') * 140737488355328 ≤ 140737488355328 * 140737488355328) (hbytes : (m + m') * bytes ≤ 140737488355328) (hd : Nat.blt d n = true)
    (k : ∀ v' a' w', Fr n a' ((d, v') :: F) → St w0 L (M.set j ⟨v', e, size, m + m', xs ++ news⟩) w' → wpList P ops Q rest a' w') : wpList P ops Q (⟨some d, .call ⟨.builtin .append, #[s, x], #[t, t]⟩, ty, pos, aft, none⟩ :: rest) a w := by
  refine wpList_plain rfl fun K hK => ?_
  obtain ⟨ti, z, q1, q2, q3, q4, q5, q6, q7⟩ := elemInfo_spec he
  have hl := Nat.le_of_ble_eq_true hl0
  have hlen : news.length = m' * size := by rw [← hn, List.length_take]; simp; omega
  obtain ⟨v', w', hr, hS'⟩ := run_append_st q1 q2 q3 q4 q5 q6 q7 hS j hj (c := c) hlen (by rw [← hn]; exact cells_of_blk (hS.get i hi)) (fun u hu => (List.all_eq_true.1 h1) u hu) (by unfold maxLen; omega) hbytes ty
  unfold Oper.wp execOp
  simp only [resolve, invoke, builtin, Sem.run_bind, Sem.run_pure, Result.andThen_ok, List.map_toArray, List.map_cons, List.map_nil, hA.ev hs, hA.ev hx, hr]
  exact hK _ _ (k v' _ w' (hA.put (blt_lt hd) v') hS')

/-! ### Regions that draw their order -/
section
variable {S : World → Prop} {Ls : List Bk} {Ms : List Rw} {fuel : Nat} {listed : Array Bool}
theorem want_t {o : Oper} {j dj : Nat} {want b : Bool} (hA : Fr n a F) (hgd : o.guard = some (j, want)) (hj : (ops[j]?).bind (·.dst) = some dj) (hb : look F dj = some (.bool b)) (h : b = want) : Region.wanted o (yielded ops a.tmps) = true := by
  rw [wanted_of hA hgd hj hb, h]; cases want <;> rfl
theorem want_f {o : Oper} {j dj : Nat} {want b : Bool} (hA : Fr n a F) (hgd : o.guard = some (j, want)) (hj : (ops[j]?).bind (·.dst) = some dj) (hb : look F dj = some (.bool b)) (h : b = !want) : Region.wanted o (yielded ops a.tmps) = false := by
  rw [wanted_of hA hgd hj hb, h]; cases want <;> rfl
/-- At a panic the post does not look at the slots. -/
def PanicFree (Q : Exit → Act → World → Prop) : Prop := ∀ c a d v w, Q (.panic c) (Act.put a d v) w → Q (.panic c) a w
theorem pf_body {fn : Func} {R : Ending → World → Prop} : PanicFree (bodyPost P fn R) := fun _ a d _ _ h => ⟨by have := h.1; cases d <;> simpa [Act.put] using this, h.2⟩
theorem pf_then {K : Act → World → Prop} (h : PanicFree Q) : PanicFree (Exit.then K Q) := h
theorem pf_block {id : Nat} (h : PanicFree Q) : PanicFree (Exit.inBlock id Q) := h

theorem r_begin {id : Nat} (hm : P.follows .mixedOrders = true) (hS : St w0 Ls Ms w)
    (h : ∀ w', St w0 Ls Ms w' → Below w.heap.size w w' → wpAnyH P .any ops Q (St w0 Ls Ms) ops.size (Array.replicate ops.size false) a w') : (Code.region id ops true).wp P Q a w :=
  wp_region_held hm (h w.drew hS.drew (Below.drew (Below.refl _ _)))
theorem r_take (i : Nat) {d : Nat} {op : Op} {ty : TypeId} {pos : String} {aft : Array Edge} {gd : Option (Nat × Bool)} (v : Value) (hA : Fr n a F) (hS : St w0 Ls Ms w) (hg : Gives P F w0 Ls Ms op v) (hi : ops[i]? = some ⟨some d, op, ty, pos, aft, gd⟩) (hw : Region.wanted ⟨some d, op, ty, pos, aft, gd⟩ (yielded ops a.tmps) = true) (hd : Nat.blt d n = true) (hQ : PanicFree Q)
    (hs : (Region.noSelect ops && Region.free .any ops listed i && (Region.ready .any ops listed).contains i) = true)
    (k : ∀ a', Fr n a' ((d, v) :: F) → wpAnyH P .any ops Q (St w0 Ls Ms) fuel (listed.setIfInBounds i true) a' w) : wpAnyH P .any ops Q (St w0 Ls Ms) (fuel + 1) listed a w := by
  rw [Bool.and_eq_true, Bool.and_eq_true] at hs
  exact wpAnyH_take hi hs.1.1 hs.1.2 hs.2 (fun c a w h => hQ c a _ v w h) (.inl ⟨hw, fun w' hw' => hg n a w' hA hw' _ _ _ _ _⟩) hS (k _ (hA.put (blt_lt hd) v))
theorem r_skip (i : Nat) {d : Nat} {op : Op} {ty : TypeId} {pos : String} {aft : Array Edge} {gd : Option (Nat × Bool)} (hA : Fr n a F) (hS : St w0 Ls Ms w) (hi : ops[i]? = some ⟨some d, op, ty, pos, aft, gd⟩) (hw : Region.wanted ⟨some d, op, ty, pos, aft, gd⟩ (yielded ops a.tmps) = false) (hd : Nat.blt d n = true) (hQ : PanicFree Q)
    (hs : (Region.noSelect ops && Region.free .any ops listed i && (Region.ready .any ops listed).contains i) = true)
    (k : ∀ a', Fr n a' ((d, undef) :: F) → wpAnyH P .any ops Q (St w0 Ls Ms) fuel (listed.setIfInBounds i true) a' w) : wpAnyH P .any ops Q (St w0 Ls Ms) (fuel + 1) listed a w := by
  rw [Bool.and_eq_true, Bool.and_eq_true] at hs
  exact wpAnyH_take hi hs.1.1 hs.1.2 hs.2 (fun c a w h => hQ c a _ undef w h) (.inr ⟨hw, rfl⟩) hS (k _ (hA.put (blt_lt hd) undef))

/-- The operation i comes up now. -/
def RS (P : Program) (ops : Array Oper) (Q : Exit → Act → World → Prop) (S : World → Prop) (fuel : Nat) (listed : Array Bool) (a : Act) (w : World) (i : Nat) : Prop :=
  wpOp P ops Q i (fun a' w' => S w' ∧ wpAnyH P .any ops Q S fuel (listed.setIfInBounds i true) a' w') a w
theorem r_1 {i : Nat} (hr : Region.ready .any ops listed = [i]) (h : RS P ops Q S fuel listed a w i) : wpAnyH P .any ops Q S (fuel + 1) listed a w :=
  wpAnyH_all hr (by simp) fun j hj => by rw [List.mem_singleton] at hj; subst hj; exact h
theorem r_2 {i j : Nat} (hr : Region.ready .any ops listed = [i, j]) (h : RS P ops Q S fuel listed a w i) (h' : RS P ops Q S fuel listed a w j) : wpAnyH P .any ops Q S (fuel + 1) listed a w :=
  wpAnyH_all hr (by simp) fun m hm => by simp only [List.mem_cons, List.not_mem_nil, or_false] at hm; rcases hm with rfl | rfl; exact h; exact h'
theorem r_3 {i j l : Nat} (hr : Region.ready .any ops listed = [i, j, l]) (h : RS P ops Q S fuel listed a w i) (h' : RS P ops Q S fuel listed a w j) (h'' : RS P ops Q S fuel listed a w l) : wpAnyH P .any ops Q S (fuel + 1) listed a w :=
  wpAnyH_all hr (by simp) fun m hm => by simp only [List.mem_cons, List.not_mem_nil, or_false] at hm; rcases hm with rfl | rfl | rfl; exact h; exact h'; exact h''
theorem r_done (hr : Region.ready .any ops listed = []) (h : Q .normal a w) : wpAnyH P .any ops Q S fuel listed a w := wpAnyH_done hr h fuel

theorem rs_of {i : Nat} {o : Oper} {K : Act → World → Prop} (hi : ops[i]? = some o) (hw : Region.wanted o (yielded ops a.tmps) = true) (h : o.wp P a w K Q) : wpOp P ops Q i K a w := by
  unfold wpOp; simp only [hi, hw, if_true]; exact .inl h
theorem rs_gives {i d : Nat} {op : Op} {ty : TypeId} {pos : String} {aft : Array Edge} {gd : Option (Nat × Bool)} (v : Value) (hA : Fr n a F) (hS : St w0 L M w) (hsub : Ls.Sublist L) (hsm : Ms.Sublist M) (hg : Gives P F w0 L M op v) (hi : ops[i]? = some ⟨some d, op, ty, pos, aft, gd⟩) (hw : Region.wanted ⟨some d, op, ty, pos, aft, gd⟩ (yielded ops a.tmps) = true) (hd : Nat.blt d n = true)
    (k : ∀ a', Fr n a' ((d, v) :: F) → wpAnyH P .any ops Q (St w0 Ls Ms) fuel (listed.setIfInBounds i true) a' w) : RS P ops Q (St w0 Ls Ms) fuel listed a w i := by
  refine rs_of hi hw ?_
  unfold Oper.wp
  rw [hg n a w hA hS]
  exact ⟨hS.sub hsub hsm, k _ (hA.put (blt_lt hd) v)⟩
theorem rs_call {i d : Nat} {f : FuncId} {fx : Operand} {args : List Operand} {ats : Array TypeId} {ty : TypeId} {pos : String} {aft : Array Edge} {gd : Option (Nat × Bool)} {fs cp : Array Value} {r : List (Nat × Value)} (av : Array Value) (v : Value) (hA : Fr n a F) (hS : St w0 L M w) (hsub : Ls.Sublist L) (hsm : Ms.Sublist M)
    (hc : Calls P f av w fun e w' => e = .returned v ∧ Below w.heap.size w w') (hcall : ∀ (as : Array Value) (w : World), (callFunc f as).run P w = .ok (.enter f as) w)
    (hi : ops[i]? = some ⟨some d, .call ⟨.value fx, args.toArray, ats⟩, ty, pos, aft, gd⟩) (hw : Region.wanted ⟨some d, .call ⟨.value fx, args.toArray, ats⟩, ty, pos, aft, gd⟩ (yielded ops a.tmps) = true)
    (hf : evO F fx = some (.func (.func f) fs cp)) (hr : evL F (args.map fun x => (0, x)) = some r) (hav : fs ++ (r.map (·.2)).toArray ++ cp = av) (hd : Nat.blt d n = true)
    (k : ∀ a' w', Fr n a' ((d, v) :: F) → St w0 L M w' → wpAnyH P .any ops Q (St w0 Ls Ms) fuel (listed.setIfInBounds i true) a' w') : RS P ops Q (St w0 Ls Ms) fuel listed a w i := by
  refine rs_of hi hw ?_
  unfold Oper.wp
  rw [run_call hA hf hr hav hcall]
  refine hc.mono fun e w' ⟨he, hb⟩ => ?_
  subst he
  exact ⟨(hS.kept hb).sub hsub hsm, k _ w' (hA.put (blt_lt hd) _) (hS.kept hb)⟩
theorem rs_alloc {i d : Nat} {t ty : TypeId} {pos : String} {aft : Array Edge} {gd : Option (Nat × Bool)} (cells : Array Value) (hA : Fr n a F) (hS : St w0 L M w) (hsub : Ls.Sublist L) (hsm : Ms.Sublist M) (hz : ((P.info? t).bind (·.zero)).map (·.cells) = some cells) (hi : ops[i]? = some ⟨some d, .alloc t, ty, pos, aft, gd⟩) (hw : Region.wanted ⟨some d, .alloc t, ty, pos, aft, gd⟩ (yielded ops a.tmps) = true) (hd : Nat.blt d n = true)
    (k : ∀ g a' w', Fr n a' ((d, .pointer (some ⟨g, 0, none⟩)) :: F) → St w0 (⟨g, t, cells, true⟩ :: L) M w' → wpAnyH P .any ops Q (St w0 Ls Ms) fuel (listed.setIfInBounds i true) a' w') : RS P ops Q (St w0 Ls Ms) fuel listed a w i := by
  refine rs_of hi hw ?_
  have hn := hS.new (Nat.le_refl _) (Blk.new w t cells) ((Below.refl _ _).alloc (Nat.le_refl _) _)
  have h' := k w.heap.size _ _ (hA.put (blt_lt hd) (.pointer (some ⟨w.heap.size, 0, none⟩))) hn
  unfold Oper.wp execOp
  cases hI : P.info? t with
  | none => simp [hI] at hz
  | some ti =>
    cases hv : ti.zero with
    | none => simp [hI, hv] at hz
    | some v =>
      have hc : v.cells = cells := by simpa [hI, hv] using hz
      simp [Instr.alloc, zeroValue, typeInfo, newVar, newRow, hc, hI, hv]
      exact ⟨hn.tail.sub hsub hsm, h'⟩
theorem rs_bs {i d : Nat} {t ty : TypeId} {len : Nat} {ps : List (Nat × Operand)} {pos : String} {aft : Array Edge} {gd : Option (Nat × Bool)} {r : List (Nat × Value)} {e : TypeId} (cells : Array Value) (hA : Fr n a F) (hS : St w0 L M w) (hsub : Ls.Sublist L) (hsm : Ms.Sublist M) (hp : evL F ps = some r) (hr : bsRow P t len r = some (e, cells)) (hi : ops[i]? = some ⟨some d, .buildSlice t len ps.toArray, ty, pos, aft, gd⟩) (hw : Region.wanted ⟨some d, .buildSlice t len ps.toArray, ty, pos, aft, gd⟩ (yielded ops a.tmps) = true) (hd : Nat.blt d n = true)
    (k : ∀ g a' w', Fr n a' ((d, .slice (some ⟨g, 0, none⟩) len len) :: F) → St w0 (⟨g, e, cells, true⟩ :: L) M w' → wpAnyH P .any ops Q (St w0 Ls Ms) fuel (listed.setIfInBounds i true) a' w') : RS P ops Q (St w0 Ls Ms) fuel listed a w i := by
  refine rs_of hi hw ?_
  have hn := hS.new (Nat.le_refl _) (Blk.new w e cells) ((Below.refl _ _).alloc (Nat.le_refl _) _)
  have h' := k w.heap.size _ _ (hA.put (blt_lt hd) (.slice (some ⟨w.heap.size, 0, none⟩) len len)) hn
  have em : ps.toArray.map (fun (p : Nat × Operand) => (p.1, a.eval p.2)) = r.toArray := by rw [List.map_toArray, evL_map hA hp]
  unfold Oper.wp execOp
  simp only
  show Oper.upon P _ a _ Q (Sem.run P (do pure (Next.value (← Instr.buildSlice t len (ps.toArray.map fun (p : Nat × Operand) => (p.1, a.eval p.2))))) w)
  rw [em, Sem.run_bind, run_buildSlice hr]
  exact ⟨hn.tail.sub hsub hsm, h'⟩
theorem rs_store {i : Nat} {ty : TypeId} {x y : Operand} {ty' : TypeId} {pos : String} {aft : Array Edge} {gd : Option (Nat × Bool)} {g off : Nat} {v : Value} {t : TypeId} {cs : Array Value} (m : Nat) (cs' : Array Value) (hA : Fr n a F) (hS : St w0 L M w) (hsub : Ls.Sublist (L.set m ⟨g, t, cs', true⟩)) (hsm : Ms.Sublist M) (hx : evO F x = some (.pointer (some ⟨g, off, none⟩))) (hy : evO F y = some v) (hb : L[m]? = some ⟨g, t, cs, true⟩) (hv : putVal P ty cs off v = some cs')
    (hi : ops[i]? = some ⟨none, .store ty x y, ty', pos, aft, gd⟩) (hw : Region.wanted ⟨none, .store ty x y, ty', pos, aft, gd⟩ (yielded ops a.tmps) = true)
    (k : ∀ w', St w0 (L.set m ⟨g, t, cs', true⟩) M w' → wpAnyH P .any ops Q (St w0 Ls Ms) fuel (listed.setIfInBounds i true) a w') : RS P ops Q (St w0 Ls Ms) fuel listed a w i := by
  refine rs_of hi hw ?_
  obtain ⟨w', hr, hb', ht⟩ := run_storeVar_blk (P := P) (hS.get m hb) hv
  unfold Oper.wp
  simp only [execOp, hA.ev hx, hA.ev hy, Instr.storeAt, Instr.sureAddr, Sem.run_bind, Sem.run_pure, Result.andThen_ok, hr]
  have hn := hS.set m hb hb' ht
  exact ⟨hn.sub hsub hsm, k w' hn⟩
theorem sub_nil {α : Type} {L : List α} : ([] : List α).Sublist L := List.nil_sublist L
theorem sub_all {α : Type} {L : List α} : L.Sublist L := List.Sublist.refl L
theorem sub_skip {α : Type} {b : α} {L L' : List α} (h : L'.Sublist L) : L'.Sublist (b :: L) := h.cons b
theorem sub_keep {α : Type} {b : α} {L L' : List α} (h : L'.Sublist L) : (b :: L').Sublist (b :: L) := h.cons_cons b
end

/-! ### Control -/
theorem n_then {K : Act → World → Prop} (h : K a w) : Exit.then K Q .normal a w := h
theorem n_block {id : Nat} (h : Q .normal a w) : Exit.inBlock id Q .normal a w := h
theorem r_then {K : Act → World → Prop} (h : Q .ret a w) : Exit.then K Q .ret a w := h
theorem r_block {id : Nat} (h : Q .ret a w) : Exit.inBlock id Q .ret a w := h
theorem x_then {K : Act → World → Prop} {i : Nat} (h : Q (.exit i) a w) : Exit.then K Q (.exit i) a w := h
theorem x_hit {i : Nat} (h : Q .normal a w) : Exit.inBlock i Q (.exit i) a w := by simp only [Exit.inBlock, if_true]; exact h
theorem x_miss {i j : Nat} (hij : Nat.beq j i = false) (h : Q (.exit j) a w) : Exit.inBlock i Q (.exit j) a w := by
  have : ¬ j = i := fun e => by rw [e, Nat.beq_refl] at hij; cases hij
  simp only [Exit.inBlock, this, if_false]; exact h
theorem c_if {c : Operand} {x y : Code} {p : Prop} [Decidable p] (hA : Fr n a F) (hc : evO F c = some (.bool (decide p))) (ht : p → x.wp P Q a w) (hf : ¬ p → y.wp P Q a w) : (Code.cond c x y).wp P Q a w :=
  wp_cond_split (hA.ev hc) (fun h => ht (of_decide_eq_true h)) (fun h => hf (of_decide_eq_false h))
theorem c_ifb {c : Operand} {x y : Code} {b : Bool} (hA : Fr n a F) (hc : evO F c = some (.bool b)) (ht : b = true → x.wp P Q a w) (hf : b = false → y.wp P Q a w) : (Code.cond c x y).wp P Q a w := wp_cond_split (hA.ev hc) ht hf
theorem c_t {c : Operand} {x y : Code} {b : Bool} (hA : Fr n a F) (hc : evO F c = some (.bool b)) (h : b = true) (k : x.wp P Q a w) : (Code.cond c x y).wp P Q a w := wp_cond_true (by rw [hA.ev hc, h]) k
theorem c_f {c : Operand} {x y : Code} {b : Bool} (hA : Fr n a F) (hc : evO F c = some (.bool b)) (h : b = false) (k : y.wp P Q a w) : (Code.cond c x y).wp P Q a w := wp_cond_false (by rw [hA.ev hc, h]) k
/-- What holds behind a piece of code is fixed first. -/
theorem c_cut {c : Code} (K : Act → World → Prop) (h1 : c.wp P (Exit.then K Q) a w) (h2 : ∀ a w, K a w → Q .normal a w) : c.wp P Q a w :=
  wp_mono h1 fun e a w h => by cases e <;> first | exact h2 _ _ h | exact h
/-- A call that leaves the world alone, or that only draws. -/
theorem sameB {f : FuncId} {av : Array Value} {v : Value} (h : Calls P f av w fun e w' => e = .returned v ∧ w = w') : Calls P f av w fun e w' => e = .returned v ∧ Below w.heap.size w w' :=
  h.mono fun _ _ ⟨he, hw⟩ => ⟨he, hw ▸ Below.refl _ _⟩
theorem drewB {f : FuncId} {av : Array Value} {v : Value} (h : Calls P f av w fun e w' => e = .returned v ∧ ∃ m, w' = w.drewN m) : Calls P f av w fun e w' => e = .returned v ∧ Below w.heap.size w w' :=
  h.mono fun _ _ ⟨he, m, hw⟩ => ⟨he, hw ▸ below_drewN (Below.refl _ _) m⟩
theorem b_nt {b : Bool} (h : b = true) : (!b) = false := by rw [h]; rfl
theorem b_nf {b : Bool} (h : b = false) : (!b) = true := by rw [h]; rfl
theorem b_at {b c : Bool} (h : b = true) (h' : c = true) : (b && c) = true := by rw [h, h']; rfl
theorem b_af1 {b c : Bool} (h : b = false) : (b && c) = false := by rw [h]; rfl
theorem b_af2 {b c : Bool} (h : c = false) : (b && c) = false := by rw [h]; cases b <;> rfl
theorem b_ot1 {b c : Bool} (h : b = true) : (b || c) = true := by rw [h]; rfl
theorem b_ot2 {b c : Bool} (h : c = true) : (b || c) = true := by rw [h]; cases b <;> rfl
theorem b_of {b c : Bool} (h : b = false) (h' : c = false) : (b || c) = false := by rw [h, h']; rfl
theorem b_and_t {b x c : Bool} (h : b = true) (e : x = c) : (b && x) = c := by rw [h, e]; rfl
theorem b_or_f {b x c : Bool} (h : b = false) (e : x = c) : (b || x) = c := by rw [h, e]; rfl
theorem bif_t {α : Type} {b : Bool} {x y : α} (h : b = true) : (bif b then x else y) = x := by rw [h]; rfl
theorem bif_f {α : Type} {b : Bool} {x y : α} (h : b = false) : (bif b then x else y) = y := by rw [h]; rfl
theorem b_apr {b c : Bool} (h : (b && c) = false) (hb : b = true) : c = false := by rw [hb] at h; exact h
theorem b_apl {b c : Bool} (h : (b && c) = false) (hc : c = true) : b = false := by rw [hc] at h; cases b; rfl; exact h
theorem b_opr {b c : Bool} (h : (b || c) = true) (hb : b = false) : c = true := by rw [hb] at h; exact h
theorem b_opl {b c : Bool} (h : (b || c) = true) (hc : c = false) : b = true := by rw [hc] at h; cases b; exact h; rfl
theorem b_nnt {b : Bool} (h : (!b) = false) : b = true := by cases b; cases h; rfl
theorem b_nnf {b : Bool} (h : (!b) = true) : b = false := by cases b; rfl; cases h
theorem by_bool {p : Prop} (b : Bool) (ht : b = true → p) (hf : b = false → p) : p := by cases b; exact hf rfl; exact ht rfl

/-- A loop whose rounds are counted by a state of their own. -/
theorem c_loop {c : Code} {ι : Type} (I : ι → Act → World → Prop) (μ : ι → Nat) (i0 : ι) (h0 : I i0 a w)
    (round : ∀ i a w, I i a w → c.wp P (Exit.then (fun a' w' => ∃ j, I j a' w' ∧ μ j < μ i) Q) a w) : (Code.loop c).wp P Q a w := by
  intro b k cs
  have key : ∀ m i a w, μ i = m → I i a w → ∃ e a' w', Q e a' w' ∧ Arrives P (lone (b.at a (.code c :: .inLoop c :: k)) cs w) b k cs e a' w' := by
    intro m
    induction m using Nat.strongRecOn with
    | _ m ih =>
      intro i a w hm hI
      obtain ⟨e, a₁, w₁, hq, harr⟩ := round i a w hI b (.inLoop c :: k) cs
      cases e with
      | normal =>
        obtain ⟨j, hJ, hlt⟩ := hq
        obtain ⟨e₂, a₂, w₂, hq₂, harr₂⟩ := ih (μ j) (hm ▸ hlt) j a₁ w₁ rfl hJ
        exact ⟨e₂, a₂, w₂, hq₂, .of_steps (Steps.trans harr (.one step_inLoop)) harr₂⟩
      | exit id => exact ⟨_, a₁, w₁, hq, .pass (x := .inLoop c) rfl (fun _ _ => .inl (by simp)) harr⟩
      | goto l => exact ⟨_, a₁, w₁, hq, .pass (x := .inLoop c) rfl (fun _ _ => .inl (by simp)) harr⟩
      | ret => exact ⟨_, a₁, w₁, hq, .pass (x := .inLoop c) rfl (fun _ _ => .inl (by simp)) harr⟩
      | panic ch => exact ⟨_, a₁, w₁, hq, .pass (x := .inLoop c) rfl (fun _ _ => .inl (by simp)) harr⟩
      | outgrown => exact ⟨_, a₁, w₁, hq, .pass (x := .inLoop c) rfl (fun _ _ => .inl (by simp)) harr⟩
  obtain ⟨e, a', w', hq, harr⟩ := key _ i0 a w rfl h0
  exact ⟨e, a', w', hq, .of_steps (.one step_loop) harr⟩

theorem c_loopN {c : Code} (I : Nat → Act → World → Prop) (i0 : Nat) (h0 : I i0 a w)
    (round : ∀ i a w, I i a w → c.wp P (Exit.then (fun a' w' => ∃ j, I j a' w' ∧ j < i) Q) a w) : (Code.loop c).wp P Q a w := c_loop I id i0 h0 round

/-! ### The end -/
def resVal (P : Program) (F : Fm) (L : List Bk) : ResultVar → Value → Prop
  | .tmp p, v => look F p = some v
  | .cell p ty, v => ∃ (g off i : Nat) (t : TypeId) (cs : Array Value) (o : Bool), look F p = some (.pointer (some ⟨g, off, none⟩)) ∧ L[i]? = some ⟨g, t, cs, o⟩ ∧ rowVal P ty cs off = some v
theorem rv_tmp {p : Nat} {v : Value} (h : look F p = some v) : resVal P F L (.tmp p) v := h
theorem rv_cell {p : Nat} {ty : TypeId} {v : Value} {g off : Nat} (i : Nat) {t : TypeId} {cs : Array Value} {o : Bool} (h : look F p = some (.pointer (some ⟨g, off, none⟩))) (hb : L[i]? = some ⟨g, t, cs, o⟩) (hv : rowVal P ty cs off = some v) : resVal P F L (.cell p ty) v := ⟨g, off, i, t, cs, o, h, hb, hv⟩
def rvRun (tmps : Array Value) : ResultVar → Sem Value
  | .tmp t => pure (tmps.getD t undef)
  | .cell p t => do loadVar t (← asAddr (tmps.getD p undef))
theorem results_eq (fn : Func) (tmps : Array Value) : results fn tmps = (do let vs ← fn.results.mapM (rvRun tmps); pure (if h : vs.size = 1 then vs[0] else .tuple vs)) := rfl
theorem run_resVal (hA : Fr n a F) (hS : St w0 L M w) {r : ResultVar} {v : Value} (h : resVal P F L r v) : (rvRun a.tmps r).run P w = .ok v w := by
  cases r with
  | tmp p => have := hA.val p v h; simp [rvRun, this]
  | cell p ty =>
    obtain ⟨g, off, i, t, cs, o, h1, h2, h3⟩ := h
    have := hA.val p _ h1
    simp [rvRun, this, asAddr, run_loadVar_rowVal (hS.get i h2) h3]
theorem fin1 {fn : Func} {R : Ending → World → Prop} {r : ResultVar} (v : Value) (hres : fn.results = #[r]) {m0 : Nat} (hA : Fr ⟨m0, []⟩ a F) (hS : St w0 L M w) (h : resVal P F L r v) (hR : R (.returned v) w) : bodyPost P fn R .ret a w := by
  refine bodyPost_ret (v := v) ?_ hA.def_ hR
  rw [results_eq, hres]
  simp [run_resVal hA hS h]
theorem fin2 {fn : Func} {R : Ending → World → Prop} {r s : ResultVar} (v u : Value) (hres : fn.results = #[r, s]) {m0 : Nat} (hA : Fr ⟨m0, []⟩ a F) (hS : St w0 L M w) (h : resVal P F L r v) (h' : resVal P F L s u) (hR : R (.returned (.tuple #[v, u])) w) : bodyPost P fn R .ret a w := by
  refine bodyPost_ret (v := .tuple #[v, u]) ?_ hA.def_ hR
  rw [results_eq, hres]
  simp [run_resVal hA hS h, run_resVal hA hS h']
theorem fin3 {fn : Func} {R : Ending → World → Prop} {r s q : ResultVar} (v u x : Value) (hres : fn.results = #[r, s, q]) {m0 : Nat} (hA : Fr ⟨m0, []⟩ a F) (hS : St w0 L M w) (h : resVal P F L r v) (h' : resVal P F L s u) (h'' : resVal P F L q x) (hR : R (.returned (.tuple #[v, u, x])) w) : bodyPost P fn R .ret a w := by
  refine bodyPost_ret (v := .tuple #[v, u, x]) ?_ hA.def_ hR
  rw [results_eq, hres]
  simp [run_resVal hA hS h, run_resVal hA hS h', run_resVal hA hS h'']

/-! ### Numbers -/
theorem b_add {t : TypeId} {x y : Int} (h : -9223372036854775808 ≤ x + y ∧ x + y ≤ 9223372036854775807) (w : World) : (binOp .add t (.int .i64 x) (.int .i64 y)).run P w = .ok (.int .i64 (x + y)) w := by
  show Result.ok (Value.int .i64 (IntKind.i64.wrap (x + y))) w = _; rw [IntWalk.i64_in _ h]
theorem b_sub {t : TypeId} {x y : Int} (h : -9223372036854775808 ≤ x - y ∧ x - y ≤ 9223372036854775807) (w : World) : (binOp .sub t (.int .i64 x) (.int .i64 y)).run P w = .ok (.int .i64 (x - y)) w := by
  show Result.ok (Value.int .i64 (IntKind.i64.wrap (x - y))) w = _; rw [IntWalk.i64_in _ h]
theorem b_mul {t : TypeId} {x y : Int} (h : -9223372036854775808 ≤ x * y ∧ x * y ≤ 9223372036854775807) (w : World) : (binOp .mul t (.int .i64 x) (.int .i64 y)).run P w = .ok (.int .i64 (x * y)) w := by
  show Result.ok (Value.int .i64 (IntKind.i64.wrap (x * y))) w = _; rw [IntWalk.i64_in _ h]
theorem b_quo {t : TypeId} {x y : Int} (hy : y ≠ 0) (h : -9223372036854775808 ≤ x.tdiv y ∧ x.tdiv y ≤ 9223372036854775807) (w : World) : (binOp .quo t (.int .i64 x) (.int .i64 y)).run P w = .ok (.int .i64 (x.tdiv y)) w := by
  show (Op.intDiv .quo .i64 x y).run P w = _
  simp only [Op.intDiv, hy, if_false]
  show Result.ok (Value.int .i64 (IntKind.i64.wrap (x.tdiv y))) w = _; rw [IntWalk.i64_in _ h]
theorem b_rem {t : TypeId} {x y : Int} (hy : y ≠ 0) (w : World) : (binOp .rem t (.int .i64 x) (.int .i64 y)).run P w = .ok (.int .i64 (x.tmod y)) w := by
  show (Op.intDiv .rem .i64 x y).run P w = _
  simp only [Op.intDiv, hy, if_false]
  rfl
theorem b_eql {k : IntKind} {t : TypeId} {x y : Int} (w : World) : (binOp .eql t (.int k x) (.int k y)).run P w = .ok (.bool (decide (x = y))) w := by
  have : (binOp .eql t (.int k x) (.int k y)).run P w = .ok (.bool (x == y)) w := by cases k <;> rfl
  rw [this, show (x == y) = decide (x = y) from rfl]
theorem b_neq {k : IntKind} {t : TypeId} {x y : Int} (w : World) : (binOp .neq t (.int k x) (.int k y)).run P w = .ok (.bool (decide (x ≠ y))) w := by
  have : (binOp .neq t (.int k x) (.int k y)).run P w = .ok (.bool (x != y)) w := by cases k <;> rfl
  rw [this, show (x != y) = decide (x ≠ y) by by_cases h : x = y <;> simp [h]]
theorem u_neg {x : Int} (h : -9223372036854775808 ≤ -x ∧ -x ≤ 9223372036854775807) (w : World) : (Op.unary .neg (.int .i64 x)).run P w = .ok (.int .i64 (-x)) w := by
  show Result.ok (Value.int .i64 (IntKind.i64.wrap (0 - x))) w = _; rw [Int.zero_sub, IntWalk.i64_in _ h]
end
end Go.Cpl
